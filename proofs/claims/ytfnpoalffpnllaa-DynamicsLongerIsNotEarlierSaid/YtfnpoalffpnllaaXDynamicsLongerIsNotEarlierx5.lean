-- This session's own text, written by wip/tools/xprint.py after the form of the kit's print.
import Derived.Test.YtfnpoalffpnllaaXDynamicsLongerIsNotEarlierx0
import Derived.Test.YtfnpoalffpnllaaXDynamicsLongerIsNotEarlierx1
import Derived.Test.YtfnpoalffpnllaaXDynamicsLongerIsNotEarlierx4
namespace Go.Proofs.Ytfnpoalffpnllaa.XDynamicsLongerIsNotEarlier
open Go.RowKit Go.Proofs.YtfnpoalffpnllaaW.PrintWords Go.Proofs.YtfnpoalffpnllaaW.PrintLast Go.Proofs.YtfnpoalffpnllaaW.PrintMore
attribute [local go_sem] max2_int min2_int max_two min_two max_three min_three max_four min_four   -- for this text's walks alone
set_option linter.unusedVariables false
set_option linter.unusedSimpArgs false

/-! ### railplanlaw6_DynamicsLongerIsNotEarlier: function 6 -/
mutual
def railplanlaw6_DynamicsLongerIsNotEarlier.j0 : Nat → List Int → List Int → Bool → Option (Bool)
  | 0, _, _, _ => none
  | k + 1, x18, x20, x94 => if x94 = true then (some false) else (railplanlaw6_DynamicsLongerIsNotEarlier.l0 k x18 x20 (x18.length : Int) 0)
def railplanlaw6_DynamicsLongerIsNotEarlier.l0 : Nat → List Int → List Int → Int → Int → Option (Bool)
  | 0, _, _, _, _ => none
  | k + 1, x18, x20, x96, x97 => if x97 < x96 then (if 0 ≤ x97 then (if x97 < (x20.length : Int) then (if x97 < (x18.length : Int) then (if (rd x20 x97) < (rd x18 x97) then (some false) else (railplanlaw6_DynamicsLongerIsNotEarlier.l0 k x18 x20 x96 (wrap64 (x97 + 1)))) else (none)) else (none)) else (none)) else (if 1 < (x18.length : Int) then (some (decide ((rd x18 1) > 0))) else (none))
end
def railplanlaw6_DynamicsLongerIsNotEarlier.f (k : Nat) (l0 : List Int) (l1 : List Int) (a2 : Int) (a3 : Int) (a4 : Int) (a5 : Int) : Option (Bool) := (railplankeep_Cells.f k l0).bind fun t188 => ((railplankeep_Stock.f l1).bind fun bt191 => (if (t188.length : Int) < 2 then ((dynamics_Check.f bt191.1 bt191.2.1 bt191.2.2.1 bt191.2.2.2.1 bt191.2.2.2.2).bind fun t197 => (some t197)) else ((railplankeep_Pick.f a2 (wrap64 ((t188.length : Int) - 1))).bind fun t198 => ((railplankeep_Pick.f a3 10).bind fun t200 => (if ([] : List (S34)).length + t188.length < 8796093022208 then ((some (([] : List (S34)) ++ t188 : List (S34))).bind fun y201 => ((railplankeep_Pick.f a4 (y201.length : Int)).bind fun t204 => (if 0 ≤ t204 then (if t204 < (y201.length : Int) then ((railplankeep_Pick.f a5 20000).bind fun t206 => ((dynamics_Times.f k t188 t198 bt191.1 bt191.2.1 bt191.2.2.1 bt191.2.2.2.1 bt191.2.2.2.2).bind fun bt208 => ((dynamics_Times.f k (y201.set (t204 : Int).toNat (⟨mx 1000 (wrap64 (((rd_T34 y201 t204).f0) - t206)), (rd_T34 y201 t204).f1⟩ : S34)) t198 bt191.1 (wrap64 (bt191.2.1 + t200)) bt191.2.2.1 bt191.2.2.2.1 bt191.2.2.2.2).bind fun bt212 => (if bt208.2 = 0 then (if bt212.2 = 0 then (if (bt208.1.length : Int) = (bt212.1.length : Int) then (railplanlaw6_DynamicsLongerIsNotEarlier.j0 k bt208.1 bt212.1 (decide ((bt208.1.length : Int) < 3))) else (railplanlaw6_DynamicsLongerIsNotEarlier.j0 k bt208.1 bt212.1 true)) else (railplanlaw6_DynamicsLongerIsNotEarlier.j0 k bt208.1 bt212.1 true)) else (railplanlaw6_DynamicsLongerIsNotEarlier.j0 k bt208.1 bt212.1 true))))) else (none)) else (none)))) else (none))))))
theorem railplanlaw6_DynamicsLongerIsNotEarlier.mono_l : ∀ k, (∀ y0 y1 y2, LeO (railplanlaw6_DynamicsLongerIsNotEarlier.j0 k y0 y1 y2) (railplanlaw6_DynamicsLongerIsNotEarlier.j0 (k + 1) y0 y1 y2)) ∧ (∀ y0 y1 y2 y3, LeO (railplanlaw6_DynamicsLongerIsNotEarlier.l0 k y0 y1 y2 y3) (railplanlaw6_DynamicsLongerIsNotEarlier.l0 (k + 1) y0 y1 y2 y3))
  | 0 => ⟨fun _ _ _ r h => by simp [railplanlaw6_DynamicsLongerIsNotEarlier.j0] at h, fun _ _ _ _ r h => by simp [railplanlaw6_DynamicsLongerIsNotEarlier.l0] at h⟩
  | k + 1 => by
    obtain ⟨ih0, ih1⟩ := railplanlaw6_DynamicsLongerIsNotEarlier.mono_l k
    refine ⟨?_, ?_⟩
    · intro y0 y1 y2
      unfold railplanlaw6_DynamicsLongerIsNotEarlier.j0
      repeat' first
      | (with_reducible exact ih0 _ _ _)
      | (with_reducible exact ih1 _ _ _ _)
      | (with_reducible exact dynamics_Times.mono _ _ _ _ _ _ _ _)
      | (with_reducible exact railplankeep_Cells.mono _ _)
      | (with_reducible exact LeO.refl _)
      | (with_reducible exact LeO.none _)
      | (with_reducible refine LeO.ite ?_ ?_)
      | (with_reducible refine LeO.bind ?_ (fun _ => ?_))
      | exact ih0 _ _ _
      | exact ih1 _ _ _ _
      | exact dynamics_Times.mono _ _ _ _ _ _ _ _
      | exact railplankeep_Cells.mono _ _
      | exact LeO.none _
      | refine LeO.ite ?_ ?_
      | refine LeO.bind ?_ (fun _ => ?_)
    · intro y0 y1 y2 y3
      unfold railplanlaw6_DynamicsLongerIsNotEarlier.l0
      repeat' first
      | (with_reducible exact ih0 _ _ _)
      | (with_reducible exact ih1 _ _ _ _)
      | (with_reducible exact dynamics_Times.mono _ _ _ _ _ _ _ _)
      | (with_reducible exact railplankeep_Cells.mono _ _)
      | (with_reducible exact LeO.refl _)
      | (with_reducible exact LeO.none _)
      | (with_reducible refine LeO.ite ?_ ?_)
      | (with_reducible refine LeO.bind ?_ (fun _ => ?_))
      | exact ih0 _ _ _
      | exact ih1 _ _ _ _
      | exact dynamics_Times.mono _ _ _ _ _ _ _ _
      | exact railplankeep_Cells.mono _ _
      | exact LeO.none _
      | refine LeO.ite ?_ ?_
      | refine LeO.bind ?_ (fun _ => ?_)
theorem railplanlaw6_DynamicsLongerIsNotEarlier.mono : ∀ a0 a1 a2 a3 a4 a5 k, LeO (railplanlaw6_DynamicsLongerIsNotEarlier.f k a0 a1 a2 a3 a4 a5) (railplanlaw6_DynamicsLongerIsNotEarlier.f (k + 1) a0 a1 a2 a3 a4 a5) := by
  intro a0 a1 a2 a3 a4 a5 k
  obtain ⟨ih0, ih1⟩ := railplanlaw6_DynamicsLongerIsNotEarlier.mono_l k
  unfold railplanlaw6_DynamicsLongerIsNotEarlier.f
  repeat' first
      | (with_reducible exact ih0 _ _ _)
      | (with_reducible exact ih1 _ _ _ _)
      | (with_reducible exact dynamics_Times.mono _ _ _ _ _ _ _ _)
      | (with_reducible exact railplankeep_Cells.mono _ _)
      | (with_reducible exact LeO.refl _)
      | (with_reducible exact LeO.none _)
      | (with_reducible refine LeO.ite ?_ ?_)
      | (with_reducible refine LeO.bind ?_ (fun _ => ?_))
      | exact ih0 _ _ _
      | exact ih1 _ _ _ _
      | exact dynamics_Times.mono _ _ _ _ _ _ _ _
      | exact railplankeep_Cells.mono _ _
      | exact LeO.none _
      | refine LeO.ite ?_ ?_
      | refine LeO.bind ?_ (fun _ => ?_)
def railplanlaw6_DynamicsLongerIsNotEarlier.T9 : Bool × List (List Nat × List Nat) := (true, [([], []), ([], []), ([], []), ([], []), ([2, 3], [2, 3]), ([4], [4]), ([5], [5]), ([], []), ([7], [7]), ([6, 8], [6, 8]), ([9], [9]), ([0, 1, 0, 1, 2, 3, 4, 5, 6, 7, 8, 9, 10], [0, 1]), ([11, 0, 1, 2, 3, 4, 5, 6, 7, 8, 9, 10], [11]), ([12, 10, 8, 0, 1, 2, 3, 4, 5, 6, 7, 8, 9, 10], [10, 12])])
def railplanlaw6_DynamicsLongerIsNotEarlier.B9 : List Nat := [0, 0, 0, 0, 12, 28, 60, 0, 128, 508, 1020, 2047, 4095, 8191]
theorem railplanlaw6_DynamicsLongerIsNotEarlier.tab9 : rtab .any (opsOf Try.f6 9) = railplanlaw6_DynamicsLongerIsNotEarlier.T9 := by kernel_rfl
theorem railplanlaw6_DynamicsLongerIsNotEarlier.bits9 : waitsOk railplanlaw6_DynamicsLongerIsNotEarlier.T9.2 railplanlaw6_DynamicsLongerIsNotEarlier.B9 = true := by kernel_rfl
def railplanlaw6_DynamicsLongerIsNotEarlier.T17 : Bool × List (List Nat × List Nat) := (true, [([], []), ([], []), ([0, 1], [0, 1]), ([2], [2]), ([], []), ([], []), ([4, 5], [4, 5]), ([6], [6]), ([3, 7], [3, 7])])
def railplanlaw6_DynamicsLongerIsNotEarlier.B17 : List Nat := [0, 0, 3, 7, 0, 0, 48, 112, 255]
theorem railplanlaw6_DynamicsLongerIsNotEarlier.tab17 : rtab .any (opsOf Try.f6 17) = railplanlaw6_DynamicsLongerIsNotEarlier.T17 := by kernel_rfl
theorem railplanlaw6_DynamicsLongerIsNotEarlier.bits17 : waitsOk railplanlaw6_DynamicsLongerIsNotEarlier.T17.2 railplanlaw6_DynamicsLongerIsNotEarlier.B17 = true := by kernel_rfl
set_option maxHeartbeats 8000000 in
set_option maxRecDepth 100000 in
theorem railplanlaw6_DynamicsLongerIsNotEarlier.calls (k : Nat) (A0 : Option Addr) (c0 : Nat) (l0 : List Int) (A1 : Option Addr) (c1 : Nat) (l1 : List Int) (a2 : Int) (a3 : Int) (a4 : Int) (a5 : Int) (r : Bool) (w : World) (hr0 : Kd.C (Kd.int .i64) w A0 l0.length l0) (hc0 : l0.length ≤ c0) (hr1 : Kd.C (Kd.int .i64) w A1 l1.length l1) (hc1 : l1.length ≤ c1) (h : railplanlaw6_DynamicsLongerIsNotEarlier.f k l0 l1 a2 a3 a4 a5 = some r) :
    Calls Try.prog 6 #[.slice A0 l0.length c0, .slice A1 l1.length c1, .int .i64 a2, .int .i64 a3, .int .i64 a4, .int .i64 a5] w fun e w' => e = .returned (.bool r) ∧ Below w.heap.size w w' := by
  have hu26 := Try.underlying26
  have HR0 := Aside0.mk hr0
  have HC0 := Aside0.mk hc0
  clear hr0 hc0
  have HR1 := Aside0.mk hr1
  have HC1 := Aside0.mk hc1
  clear hr1 hc1
  have HB := Aside0.mk (Below.refl w.heap.size w)
  have H : ((railplankeep_Cells.f k l0).bind fun t188 => ((railplankeep_Stock.f l1).bind fun bt191 => (if (t188.length : Int) < 2 then ((dynamics_Check.f bt191.1 bt191.2.1 bt191.2.2.1 bt191.2.2.2.1 bt191.2.2.2.2).bind fun t197 => (some t197)) else ((railplankeep_Pick.f a2 (wrap64 ((t188.length : Int) - 1))).bind fun t198 => ((railplankeep_Pick.f a3 10).bind fun t200 => (if ([] : List (S34)).length + t188.length < 8796093022208 then ((some (([] : List (S34)) ++ t188 : List (S34))).bind fun y201 => ((railplankeep_Pick.f a4 (y201.length : Int)).bind fun t204 => (if 0 ≤ t204 then (if t204 < (y201.length : Int) then ((railplankeep_Pick.f a5 20000).bind fun t206 => ((dynamics_Times.f k t188 t198 bt191.1 bt191.2.1 bt191.2.2.1 bt191.2.2.2.1 bt191.2.2.2.2).bind fun bt208 => ((dynamics_Times.f k (y201.set (t204 : Int).toNat (⟨mx 1000 (wrap64 (((rd_T34 y201 t204).f0) - t206)), (rd_T34 y201 t204).f1⟩ : S34)) t198 bt191.1 (wrap64 (bt191.2.1 + t200)) bt191.2.2.1 bt191.2.2.2.1 bt191.2.2.2.2).bind fun bt212 => (if bt208.2 = 0 then (if bt212.2 = 0 then (if (bt208.1.length : Int) = (bt212.1.length : Int) then (railplanlaw6_DynamicsLongerIsNotEarlier.j0 k bt208.1 bt212.1 (decide ((bt208.1.length : Int) < 3))) else (railplanlaw6_DynamicsLongerIsNotEarlier.j0 k bt208.1 bt212.1 true)) else (railplanlaw6_DynamicsLongerIsNotEarlier.j0 k bt208.1 bt212.1 true)) else (railplanlaw6_DynamicsLongerIsNotEarlier.j0 k bt208.1 bt212.1 true))))) else (none)) else (none)))) else (none))))))) = some r := h
  clear h
  replace H := Option.bind_eq_some_iff.mp H
  obtain ⟨t188, A70, H⟩ := H
  replace H : ((railplankeep_Stock.f l1).bind fun bt191 => (if (t188.length : Int) < 2 then ((dynamics_Check.f bt191.1 bt191.2.1 bt191.2.2.1 bt191.2.2.2.1 bt191.2.2.2.2).bind fun t197 => (some t197)) else ((railplankeep_Pick.f a2 (wrap64 ((t188.length : Int) - 1))).bind fun t198 => ((railplankeep_Pick.f a3 10).bind fun t200 => (if ([] : List (S34)).length + t188.length < 8796093022208 then ((some (([] : List (S34)) ++ t188 : List (S34))).bind fun y201 => ((railplankeep_Pick.f a4 (y201.length : Int)).bind fun t204 => (if 0 ≤ t204 then (if t204 < (y201.length : Int) then ((railplankeep_Pick.f a5 20000).bind fun t206 => ((dynamics_Times.f k t188 t198 bt191.1 bt191.2.1 bt191.2.2.1 bt191.2.2.2.1 bt191.2.2.2.2).bind fun bt208 => ((dynamics_Times.f k (y201.set (t204 : Int).toNat (⟨mx 1000 (wrap64 (((rd_T34 y201 t204).f0) - t206)), (rd_T34 y201 t204).f1⟩ : S34)) t198 bt191.1 (wrap64 (bt191.2.1 + t200)) bt191.2.2.1 bt191.2.2.2.1 bt191.2.2.2.2).bind fun bt212 => (if bt208.2 = 0 then (if bt212.2 = 0 then (if (bt208.1.length : Int) = (bt212.1.length : Int) then (railplanlaw6_DynamicsLongerIsNotEarlier.j0 k bt208.1 bt212.1 (decide ((bt208.1.length : Int) < 3))) else (railplanlaw6_DynamicsLongerIsNotEarlier.j0 k bt208.1 bt212.1 true)) else (railplanlaw6_DynamicsLongerIsNotEarlier.j0 k bt208.1 bt212.1 true)) else (railplanlaw6_DynamicsLongerIsNotEarlier.j0 k bt208.1 bt212.1 true))))) else (none)) else (none)))) else (none)))))) = some r := H
  have A7 := Aside0.mk A70
  clear A70
  replace H := Option.bind_eq_some_iff.mp H
  obtain ⟨⟨t191, t192, t193, t194, t195⟩, A80, H⟩ := H
  replace H : (if (t188.length : Int) < 2 then ((dynamics_Check.f t191 t192 t193 t194 t195).bind fun t197 => (some t197)) else ((railplankeep_Pick.f a2 (wrap64 ((t188.length : Int) - 1))).bind fun t198 => ((railplankeep_Pick.f a3 10).bind fun t200 => (if ([] : List (S34)).length + t188.length < 8796093022208 then ((some (([] : List (S34)) ++ t188 : List (S34))).bind fun y201 => ((railplankeep_Pick.f a4 (y201.length : Int)).bind fun t204 => (if 0 ≤ t204 then (if t204 < (y201.length : Int) then ((railplankeep_Pick.f a5 20000).bind fun t206 => ((dynamics_Times.f k t188 t198 t191 t192 t193 t194 t195).bind fun bt208 => ((dynamics_Times.f k (y201.set (t204 : Int).toNat (⟨mx 1000 (wrap64 (((rd_T34 y201 t204).f0) - t206)), (rd_T34 y201 t204).f1⟩ : S34)) t198 t191 (wrap64 (t192 + t200)) t193 t194 t195).bind fun bt212 => (if bt208.2 = 0 then (if bt212.2 = 0 then (if (bt208.1.length : Int) = (bt212.1.length : Int) then (railplanlaw6_DynamicsLongerIsNotEarlier.j0 k bt208.1 bt212.1 (decide ((bt208.1.length : Int) < 3))) else (railplanlaw6_DynamicsLongerIsNotEarlier.j0 k bt208.1 bt212.1 true)) else (railplanlaw6_DynamicsLongerIsNotEarlier.j0 k bt208.1 bt212.1 true)) else (railplanlaw6_DynamicsLongerIsNotEarlier.j0 k bt208.1 bt212.1 true))))) else (none)) else (none)))) else (none))))) = some r := H
  have A8 := Aside0.mk A80
  clear A80
  by_cases c9 : (t188.length : Int) < 2
  · rw [if_pos c9] at H
    have c9b0 : decide ((t188.length : Int) < 2) = true := decide_eq_true c9
    have c9b1 : decide (t188.length < 2) = true := decide_eq_true (by omega)
    clear c9
    replace H := Option.bind_eq_some_iff.mp H
    obtain ⟨t197, A100, H⟩ := H
    replace H : (some t197) = some r := H
    have A10 := Aside0.mk A100
    clear A100
    obtain rfl := Option.some.inj H
    go_enter Try.func6, Try.ntmps6
    go_wp2_with (first | ((with_reducible refine gate_callee (f := 13) rfl ?_); refine goesL_ (some 24) rfl rfl Try.func13 (by kernel_rfl) rfl #[.slice A0 l0.length c0] rfl (by (try simp only [List.map_toArray, List.map_cons, List.map_nil]); first | done | rfl | (simp only [List.length_drop, List.length_take]; rfl)) ?_; (with_reducible refine (railplankeep_Cells.calls k _ _ l0 t188 _ ?side1 ?side2 A7.out).mono ?_); (case side1 => repeat (first | exact HR0.out | (with_reducible refine Kd.C_alloc ?_ _) | (with_reducible refine Kd.C_drewN ?_ _) | (with_reducible refine Kd.C_drew ?_))); (case side2 => exact HC0.out); rintro e w11 ⟨v189, rfl, ho0, hb⟩; refine ⟨_, rfl, ?_⟩; have n0_ := Aside0.mk (Kd.R_lower ho0 (below_size (by repeat (first | (with_reducible first | exact HB.out | apply below_alloc | apply pw_below_drewN | apply below_drew1) | exact HB.out)))); have n1_ := Aside0.mk (below_step (by repeat (first | (with_reducible first | exact HB.out | apply below_alloc | apply pw_below_drewN | apply below_drew1) | exact HB.out)) hb); clear HB; have HO190 := n0_; have HB := n1_; clear n0_ n1_; (try clear hb); (try clear hb2); (try clear hk); (try clear hi); (try clear ho0)) | ((with_reducible refine gate_callee (f := 14) rfl ?_); refine goesL_ (some 26) rfl rfl Try.func14 (by kernel_rfl) rfl #[.slice A1 l1.length c1] rfl (by (try simp only [List.map_toArray, List.map_cons, List.map_nil]); first | done | rfl | (simp only [List.length_drop, List.length_take]; rfl)) ?_; (with_reducible refine (railplankeep_Stock.calls _ _ l1 t191 t192 t193 t194 t195 _ ?side1 ?side2 A8.out).mono ?_); (case side1 => repeat (first | exact (Kd.C_below HR1.out HB.out) | (with_reducible refine Kd.C_alloc ?_ _) | (with_reducible refine Kd.C_drewN ?_ _) | (with_reducible refine Kd.C_drew ?_))); (case side2 => exact HC1.out); rintro e w12 ⟨rfl, hb⟩; refine ⟨_, rfl, ?_⟩; have n0_ := Aside0.mk (Kd.R_below (by (with_reducible repeat (first | apply Kd.R_alloc | apply Kd.R_drewN | apply Kd.R_drew)); exact HO190.out) hb); have n1_ := Aside0.mk (below_step (by repeat (first | (with_reducible first | exact HB.out | apply below_alloc | apply pw_below_drewN | apply below_drew1) | exact HB.out)) hb); clear HO190; clear HB; have HO190 := n0_; have HB := n1_; clear n0_ n1_; (try clear hb); (try clear hb2); (try clear hk); (try clear hi)) | ((with_reducible refine gate_dst (N := 14) rfl ?_); (try (refine gate_guard (by rfl) ?_; dsimp only)); refine box_event ?hg (N := 14) ?hd (cs := #[.string (⟨#[]⟩ : ByteArray), .int .i64 0, .int .i64 0, .int .i64 0, .int .i64 0]) (t := 26) ?hr ?_; (case hd => rfl); (case hg => rfl); (case hr => first | (go_simp; done) | (go_simp; rfl)); intro gb196 hg w13 hbox hb; have n0_ := Aside0.mk (Kd.R_below (by (with_reducible repeat (first | apply Kd.R_alloc | apply Kd.R_drewN | apply Kd.R_drew)); exact HO190.out) hb); have n1_ := Aside0.mk (below_step (by repeat (first | (with_reducible first | exact HB.out | apply below_alloc | apply pw_below_drewN | apply below_drew1) | exact HB.out)) hb); have n2_ := Aside0.mk (hbox); have n3_ := Aside0.mk ((by rw [hg]; exact (below_size (by repeat (first | (with_reducible first | exact HB.out | apply below_alloc | apply pw_below_drewN | apply below_drew1) | exact HB.out))) : w.heap.size ≤ gb196)); have n4_ := Aside0.mk ((by rw [hg]; exact (below_size (by repeat (first | (with_reducible first | exact HB.out | apply below_alloc | apply pw_below_drewN | apply below_drew1) | exact HB.out))) : w.heap.size ≤ gb196)); clear HO190; clear HB; have HO190 := n0_; have HB := n1_; have BK196 := n2_; have GW196 := n3_; have GE196 := n4_; clear n0_ n1_ n2_ n3_ n4_; clear hb hbox hg; have hcz14_0 : w13.cell? ⟨gb196, 0, none⟩ = some (.string (⟨#[]⟩ : ByteArray)) := (blk_cell BK196.out 0).trans rfl; have hcz14_1 : w13.cell? ⟨gb196, 1, none⟩ = some (.int .i64 0) := (blk_cell BK196.out 1).trans rfl; have hcz14_2 : w13.cell? ⟨gb196, 2, none⟩ = some (.int .i64 0) := (blk_cell BK196.out 2).trans rfl; have hcz14_3 : w13.cell? ⟨gb196, 3, none⟩ = some (.int .i64 0) := (blk_cell BK196.out 3).trans rfl; have hcz14_4 : w13.cell? ⟨gb196, 4, none⟩ = some (.int .i64 0) := (blk_cell BK196.out 4).trans rfl; have hfz14_0 := blk_frozen BK196.out 0; have hfz14_1 := blk_frozen BK196.out 1; have hfz14_2 := blk_frozen BK196.out 2; have hfz14_3 := blk_frozen BK196.out 3; have hfz14_4 := blk_frozen BK196.out 4; obtain ⟨Ao15, co15, eo15⟩ := Kd.R_slice HO190.out; subst eo15) | ((with_reducible refine gate_callee (f := 15) rfl ?_); refine goesL_ (some 31) rfl rfl Try.func15 (by kernel_rfl) rfl #[.agg #[.string t191, .int .i64 t192, .int .i64 t193, .int .i64 t194, .int .i64 t195]] rfl (by (try simp only [List.map_toArray, List.map_cons, List.map_nil]); first | done | rfl | (simp only [List.length_drop, List.length_take]; rfl)) ?_; (with_reducible refine (dynamics_Check.calls t191 t192 t193 t194 t195 t197 _ A10.out).mono ?_); rintro e w16 ⟨rfl, hb⟩; refine ⟨_, rfl, ?_⟩; have n0_ := Aside0.mk (Kd.R_below (by (with_reducible repeat (first | apply Kd.R_alloc | apply Kd.R_drewN | apply Kd.R_drew)); exact (Kd.R_mono (Kd.R_far (p := ⟨gb196, 4, none⟩) (Kd.R_far (p := ⟨gb196, 3, none⟩) (Kd.R_far (p := ⟨gb196, 2, none⟩) (Kd.R_far (p := ⟨gb196, 1, none⟩) (Kd.R_far (p := ⟨gb196, 0, none⟩) (Kd.R_types HO190.out BK196.out (by decide)) (fun _ hk => hk.2) (.string t191)) (fun _ hk => hk.2) (.int .i64 t192)) (fun _ hk => hk.2) (.int .i64 t193)) (fun _ hk => hk.2) (.int .i64 t194)) (fun _ hk => hk.2) (.int .i64 t195)) (fun _ h_ => h_.1))) hb); have n1_ := Aside0.mk (blk_below (g := gb196) (o := .cells #[.string t191, .int .i64 t192, .int .i64 t193, .int .i64 t194, .int .i64 t195] 26 (0, 0)) (by (with_reducible repeat (first | refine blk_drewN ?_ _ | refine blk_drew ?_ | refine blk_alloc ?_ _)); refine blk_put (cs := #[.string t191, .int .i64 t192, .int .i64 t193, .int .i64 t194, .int .i64 0]) ?_ 4 _ rfl; (with_reducible repeat (first | refine blk_drewN ?_ _ | refine blk_drew ?_ | refine blk_alloc ?_ _)); refine blk_put (cs := #[.string t191, .int .i64 t192, .int .i64 t193, .int .i64 0, .int .i64 0]) ?_ 3 _ rfl; (with_reducible repeat (first | refine blk_drewN ?_ _ | refine blk_drew ?_ | refine blk_alloc ?_ _)); refine blk_put (cs := #[.string t191, .int .i64 t192, .int .i64 0, .int .i64 0, .int .i64 0]) ?_ 2 _ rfl; (with_reducible repeat (first | refine blk_drewN ?_ _ | refine blk_drew ?_ | refine blk_alloc ?_ _)); refine blk_put (cs := #[.string t191, .int .i64 0, .int .i64 0, .int .i64 0, .int .i64 0]) ?_ 1 _ rfl; (with_reducible repeat (first | refine blk_drewN ?_ _ | refine blk_drew ?_ | refine blk_alloc ?_ _)); refine blk_put (cs := #[.string (⟨#[]⟩ : ByteArray), .int .i64 0, .int .i64 0, .int .i64 0, .int .i64 0]) ?_ 0 _ rfl; (with_reducible repeat (first | refine blk_drewN ?_ _ | refine blk_drew ?_ | refine blk_alloc ?_ _)); exact BK196.out) hb); have n2_ := Aside0.mk (below_step (by repeat (first | (with_reducible first | exact HB.out | apply below_alloc | apply pw_below_drewN | apply below_drew1 | refine below_set ?_ GE196.out) | exact HB.out)) hb); clear HO190; clear BK196; clear HB; have HO190 := n0_; have BK196 := n1_; have HB := n2_; clear n0_ n1_ n2_; (try clear hb); (try clear hb2); (try clear hk); (try clear hi)))
    go_ret
    exact ⟨by first | rfl | (simp [errW_none, errW_some] <;> rfl) | (simp [*, errW_none, errW_some] <;> rfl), by repeat (first | (with_reducible first | exact HB.out | apply below_alloc | apply pw_below_drewN | apply below_drew1 | refine below_set ?_ GE196.out) | exact HB.out)⟩
  · rw [if_neg c9] at H
    have c9b0 : decide ((t188.length : Int) < 2) = false := decide_eq_false c9
    have c9b1 : decide (t188.length < 2) = false := decide_eq_false (by omega)
    clear c9
    replace H := Option.bind_eq_some_iff.mp H
    obtain ⟨t198, A170, H⟩ := H
    replace H : ((railplankeep_Pick.f a3 10).bind fun t200 => (if ([] : List (S34)).length + t188.length < 8796093022208 then ((some (([] : List (S34)) ++ t188 : List (S34))).bind fun y201 => ((railplankeep_Pick.f a4 (y201.length : Int)).bind fun t204 => (if 0 ≤ t204 then (if t204 < (y201.length : Int) then ((railplankeep_Pick.f a5 20000).bind fun t206 => ((dynamics_Times.f k t188 t198 t191 t192 t193 t194 t195).bind fun bt208 => ((dynamics_Times.f k (y201.set (t204 : Int).toNat (⟨mx 1000 (wrap64 (((rd_T34 y201 t204).f0) - t206)), (rd_T34 y201 t204).f1⟩ : S34)) t198 t191 (wrap64 (t192 + t200)) t193 t194 t195).bind fun bt212 => (if bt208.2 = 0 then (if bt212.2 = 0 then (if (bt208.1.length : Int) = (bt212.1.length : Int) then (railplanlaw6_DynamicsLongerIsNotEarlier.j0 k bt208.1 bt212.1 (decide ((bt208.1.length : Int) < 3))) else (railplanlaw6_DynamicsLongerIsNotEarlier.j0 k bt208.1 bt212.1 true)) else (railplanlaw6_DynamicsLongerIsNotEarlier.j0 k bt208.1 bt212.1 true)) else (railplanlaw6_DynamicsLongerIsNotEarlier.j0 k bt208.1 bt212.1 true))))) else (none)) else (none)))) else (none))) = some r := H
    have A17 := Aside0.mk A170
    clear A170
    replace H := Option.bind_eq_some_iff.mp H
    obtain ⟨t200, A180, H⟩ := H
    replace H : (if ([] : List (S34)).length + t188.length < 8796093022208 then ((some (([] : List (S34)) ++ t188 : List (S34))).bind fun y201 => ((railplankeep_Pick.f a4 (y201.length : Int)).bind fun t204 => (if 0 ≤ t204 then (if t204 < (y201.length : Int) then ((railplankeep_Pick.f a5 20000).bind fun t206 => ((dynamics_Times.f k t188 t198 t191 t192 t193 t194 t195).bind fun bt208 => ((dynamics_Times.f k (y201.set (t204 : Int).toNat (⟨mx 1000 (wrap64 (((rd_T34 y201 t204).f0) - t206)), (rd_T34 y201 t204).f1⟩ : S34)) t198 t191 (wrap64 (t192 + t200)) t193 t194 t195).bind fun bt212 => (if bt208.2 = 0 then (if bt212.2 = 0 then (if (bt208.1.length : Int) = (bt212.1.length : Int) then (railplanlaw6_DynamicsLongerIsNotEarlier.j0 k bt208.1 bt212.1 (decide ((bt208.1.length : Int) < 3))) else (railplanlaw6_DynamicsLongerIsNotEarlier.j0 k bt208.1 bt212.1 true)) else (railplanlaw6_DynamicsLongerIsNotEarlier.j0 k bt208.1 bt212.1 true)) else (railplanlaw6_DynamicsLongerIsNotEarlier.j0 k bt208.1 bt212.1 true))))) else (none)) else (none)))) else (none)) = some r := H
    have A18 := Aside0.mk A180
    clear A180
    by_cases c19 : ([] : List (S34)).length + t188.length < 8796093022208
    · rw [if_pos c19] at H
      have LMc19 := Aside0.mk c19
      clear c19
      obtain ⟨y201, hy201⟩ : ∃ y_ : List (S34), y_ = (([] : List (S34)) ++ t188) := ⟨_, rfl⟩
      replace H : ((railplankeep_Pick.f a4 (y201.length : Int)).bind fun t204 => (if 0 ≤ t204 then (if t204 < (y201.length : Int) then ((railplankeep_Pick.f a5 20000).bind fun t206 => ((dynamics_Times.f k t188 t198 t191 t192 t193 t194 t195).bind fun bt208 => ((dynamics_Times.f k (y201.set (t204 : Int).toNat (⟨mx 1000 (wrap64 (((rd_T34 y201 t204).f0) - t206)), (rd_T34 y201 t204).f1⟩ : S34)) t198 t191 (wrap64 (t192 + t200)) t193 t194 t195).bind fun bt212 => (if bt208.2 = 0 then (if bt212.2 = 0 then (if (bt208.1.length : Int) = (bt212.1.length : Int) then (railplanlaw6_DynamicsLongerIsNotEarlier.j0 k bt208.1 bt212.1 (decide ((bt208.1.length : Int) < 3))) else (railplanlaw6_DynamicsLongerIsNotEarlier.j0 k bt208.1 bt212.1 true)) else (railplanlaw6_DynamicsLongerIsNotEarlier.j0 k bt208.1 bt212.1 true)) else (railplanlaw6_DynamicsLongerIsNotEarlier.j0 k bt208.1 bt212.1 true))))) else (none)) else (none))) = some r := by first | (rw [hy201]; with_reducible exact H) | (have H2_ := (Option.bind_some _ _).symm.trans H; rw [hy201]; with_reducible exact H2_) | (have H2_ := (Option.bind_some _ _).symm.trans H; with_reducible exact H2_) | with_reducible exact H | (rw [hy201]; exact H) | exact H
      have Ny201 := Aside0.mk hy201
      clear hy201
      replace H := Option.bind_eq_some_iff.mp H
      obtain ⟨t204, A200, H⟩ := H
      replace H : (if 0 ≤ t204 then (if t204 < (y201.length : Int) then ((railplankeep_Pick.f a5 20000).bind fun t206 => ((dynamics_Times.f k t188 t198 t191 t192 t193 t194 t195).bind fun bt208 => ((dynamics_Times.f k (y201.set (t204 : Int).toNat (⟨mx 1000 (wrap64 (((rd_T34 y201 t204).f0) - t206)), (rd_T34 y201 t204).f1⟩ : S34)) t198 t191 (wrap64 (t192 + t200)) t193 t194 t195).bind fun bt212 => (if bt208.2 = 0 then (if bt212.2 = 0 then (if (bt208.1.length : Int) = (bt212.1.length : Int) then (railplanlaw6_DynamicsLongerIsNotEarlier.j0 k bt208.1 bt212.1 (decide ((bt208.1.length : Int) < 3))) else (railplanlaw6_DynamicsLongerIsNotEarlier.j0 k bt208.1 bt212.1 true)) else (railplanlaw6_DynamicsLongerIsNotEarlier.j0 k bt208.1 bt212.1 true)) else (railplanlaw6_DynamicsLongerIsNotEarlier.j0 k bt208.1 bt212.1 true))))) else (none)) else (none)) = some r := H
      have A20 := Aside0.mk A200
      clear A200
      by_cases c21 : 0 ≤ t204
      · rw [if_pos c21] at H
        have c21b0 : decide (0 ≤ t204) = true := decide_eq_true c21
        clear c21
        by_cases c22 : t204 < (y201.length : Int)
        · rw [if_pos c22] at H
          have c22b0 : decide (t204 < (y201.length : Int)) = true := decide_eq_true c22
          clear c22
          replace H := Option.bind_eq_some_iff.mp H
          obtain ⟨t206, A230, H⟩ := H
          replace H : ((dynamics_Times.f k t188 t198 t191 t192 t193 t194 t195).bind fun bt208 => ((dynamics_Times.f k (y201.set (t204 : Int).toNat (⟨mx 1000 (wrap64 (((rd_T34 y201 t204).f0) - t206)), (rd_T34 y201 t204).f1⟩ : S34)) t198 t191 (wrap64 (t192 + t200)) t193 t194 t195).bind fun bt212 => (if bt208.2 = 0 then (if bt212.2 = 0 then (if (bt208.1.length : Int) = (bt212.1.length : Int) then (railplanlaw6_DynamicsLongerIsNotEarlier.j0 k bt208.1 bt212.1 (decide ((bt208.1.length : Int) < 3))) else (railplanlaw6_DynamicsLongerIsNotEarlier.j0 k bt208.1 bt212.1 true)) else (railplanlaw6_DynamicsLongerIsNotEarlier.j0 k bt208.1 bt212.1 true)) else (railplanlaw6_DynamicsLongerIsNotEarlier.j0 k bt208.1 bt212.1 true)))) = some r := H
          have A23 := Aside0.mk A230
          clear A230
          obtain ⟨ji24, hji24⟩ : ∃ j_ : Int, (mx 1000 (wrap64 (((rd_T34 y201 t204).f0) - t206))) = j_ := ⟨_, rfl⟩
          replace H : ((dynamics_Times.f k t188 t198 t191 t192 t193 t194 t195).bind fun bt208 => ((dynamics_Times.f k (y201.set (t204 : Int).toNat (⟨ji24, (rd_T34 y201 t204).f1⟩ : S34)) t198 t191 (wrap64 (t192 + t200)) t193 t194 t195).bind fun bt212 => (if bt208.2 = 0 then (if bt212.2 = 0 then (if (bt208.1.length : Int) = (bt212.1.length : Int) then (railplanlaw6_DynamicsLongerIsNotEarlier.j0 k bt208.1 bt212.1 (decide ((bt208.1.length : Int) < 3))) else (railplanlaw6_DynamicsLongerIsNotEarlier.j0 k bt208.1 bt212.1 true)) else (railplanlaw6_DynamicsLongerIsNotEarlier.j0 k bt208.1 bt212.1 true)) else (railplanlaw6_DynamicsLongerIsNotEarlier.j0 k bt208.1 bt212.1 true)))) = some r := by first | (rw [hji24] at H; exact H) | (simp only [hji24] at H ⊢; exact H)
          (try rw [hji24] at A7)
          (try rw [hji24] at A8)
          (try rw [hji24] at A17)
          (try rw [hji24] at A18)
          (try rw [hji24] at A20)
          (try rw [hji24] at A23)
          (try (have hji24l : 1000 ≤ ji24 := by (rw [← hji24]; unfold mx; (repeat' split) <;> omega)))
          (try (have hji24m : 0 ≤ ji24 := by omega))
          have hji24_ : (if 1000 < (wrap64 (((rd_T34 y201 t204).f0) - t206)) then (wrap64 (((rd_T34 y201 t204).f0) - t206)) else 1000) = ji24 := hji24
          obtain ⟨y207, hy207⟩ : ∃ y_ : List (S34), y_ = (y201.set (t204 : Int).toNat (⟨ji24, (rd_T34 y201 t204).f1⟩ : S34)) := ⟨_, rfl⟩
          replace H : ((dynamics_Times.f k t188 t198 t191 t192 t193 t194 t195).bind fun bt208 => ((dynamics_Times.f k y207 t198 t191 (wrap64 (t192 + t200)) t193 t194 t195).bind fun bt212 => (if bt208.2 = 0 then (if bt212.2 = 0 then (if (bt208.1.length : Int) = (bt212.1.length : Int) then (railplanlaw6_DynamicsLongerIsNotEarlier.j0 k bt208.1 bt212.1 (decide ((bt208.1.length : Int) < 3))) else (railplanlaw6_DynamicsLongerIsNotEarlier.j0 k bt208.1 bt212.1 true)) else (railplanlaw6_DynamicsLongerIsNotEarlier.j0 k bt208.1 bt212.1 true)) else (railplanlaw6_DynamicsLongerIsNotEarlier.j0 k bt208.1 bt212.1 true)))) = some r := by first | (rw [hy207]; with_reducible exact H) | (have H2_ := (Option.bind_some _ _).symm.trans H; rw [hy207]; with_reducible exact H2_) | (have H2_ := (Option.bind_some _ _).symm.trans H; with_reducible exact H2_) | with_reducible exact H | (rw [hy207]; exact H) | exact H
          have Ny207 := Aside0.mk hy207
          clear hy207
          replace H := Option.bind_eq_some_iff.mp H
          obtain ⟨⟨t208, t211⟩, A260, H⟩ := H
          replace H : ((dynamics_Times.f k y207 t198 t191 (wrap64 (t192 + t200)) t193 t194 t195).bind fun bt212 => (if t211 = 0 then (if bt212.2 = 0 then (if (t208.length : Int) = (bt212.1.length : Int) then (railplanlaw6_DynamicsLongerIsNotEarlier.j0 k t208 bt212.1 (decide ((t208.length : Int) < 3))) else (railplanlaw6_DynamicsLongerIsNotEarlier.j0 k t208 bt212.1 true)) else (railplanlaw6_DynamicsLongerIsNotEarlier.j0 k t208 bt212.1 true)) else (railplanlaw6_DynamicsLongerIsNotEarlier.j0 k t208 bt212.1 true))) = some r := H
          have A26 := Aside0.mk A260
          clear A260
          replace H := Option.bind_eq_some_iff.mp H
          obtain ⟨⟨t212, t215⟩, A270, H⟩ := H
          replace H : (if t211 = 0 then (if t215 = 0 then (if (t208.length : Int) = (t212.length : Int) then (railplanlaw6_DynamicsLongerIsNotEarlier.j0 k t208 t212 (decide ((t208.length : Int) < 3))) else (railplanlaw6_DynamicsLongerIsNotEarlier.j0 k t208 t212 true)) else (railplanlaw6_DynamicsLongerIsNotEarlier.j0 k t208 t212 true)) else (railplanlaw6_DynamicsLongerIsNotEarlier.j0 k t208 t212 true)) = some r := H
          have A27 := Aside0.mk A270
          clear A270
          have HC28 := Aside0.mk H
          clear H
          go_enter Try.func6, Try.ntmps6
          try go_wp2_with (first | ((with_reducible refine gate_callee (f := 13) rfl ?_); refine goesL_ (some 24) rfl rfl Try.func13 (by kernel_rfl) rfl #[.slice A0 l0.length c0] rfl (by (try simp only [List.map_toArray, List.map_cons, List.map_nil]); first | done | rfl | (simp only [List.length_drop, List.length_take]; rfl)) ?_; (with_reducible refine (railplankeep_Cells.calls k _ _ l0 t188 _ ?side1 ?side2 A7.out).mono ?_); (case side1 => repeat (first | exact HR0.out | (with_reducible refine Kd.C_alloc ?_ _) | (with_reducible refine Kd.C_drewN ?_ _) | (with_reducible refine Kd.C_drew ?_))); (case side2 => exact HC0.out); rintro e w29 ⟨v189, rfl, ho0, hb⟩; refine ⟨_, rfl, ?_⟩; have n0_ := Aside0.mk (Kd.R_lower ho0 (below_size (by repeat (first | (with_reducible first | exact HB.out | apply below_alloc | apply pw_below_drewN | apply below_drew1) | exact HB.out)))); have n1_ := Aside0.mk (below_step (by repeat (first | (with_reducible first | exact HB.out | apply below_alloc | apply pw_below_drewN | apply below_drew1) | exact HB.out)) hb); clear HB; have HO190 := n0_; have HB := n1_; clear n0_ n1_; (try clear hb); (try clear hb2); (try clear hk); (try clear hi); (try clear ho0)) | ((with_reducible refine gate_callee (f := 14) rfl ?_); refine goesL_ (some 26) rfl rfl Try.func14 (by kernel_rfl) rfl #[.slice A1 l1.length c1] rfl (by (try simp only [List.map_toArray, List.map_cons, List.map_nil]); first | done | rfl | (simp only [List.length_drop, List.length_take]; rfl)) ?_; (with_reducible refine (railplankeep_Stock.calls _ _ l1 t191 t192 t193 t194 t195 _ ?side1 ?side2 A8.out).mono ?_); (case side1 => repeat (first | exact (Kd.C_below HR1.out HB.out) | (with_reducible refine Kd.C_alloc ?_ _) | (with_reducible refine Kd.C_drewN ?_ _) | (with_reducible refine Kd.C_drew ?_))); (case side2 => exact HC1.out); rintro e w30 ⟨rfl, hb⟩; refine ⟨_, rfl, ?_⟩; have n0_ := Aside0.mk (Kd.R_below (by (with_reducible repeat (first | apply Kd.R_alloc | apply Kd.R_drewN | apply Kd.R_drew)); exact HO190.out) hb); have n1_ := Aside0.mk (below_step (by repeat (first | (with_reducible first | exact HB.out | apply below_alloc | apply pw_below_drewN | apply below_drew1) | exact HB.out)) hb); clear HO190; clear HB; have HO190 := n0_; have HB := n1_; clear n0_ n1_; (try clear hb); (try clear hb2); (try clear hk); (try clear hi)) | ((with_reducible refine gate_dst (N := 14) rfl ?_); (try (refine gate_guard (by rfl) ?_; dsimp only)); refine box_event ?hg (N := 14) ?hd (cs := #[.string (⟨#[]⟩ : ByteArray), .int .i64 0, .int .i64 0, .int .i64 0, .int .i64 0]) (t := 26) ?hr ?_; (case hd => rfl); (case hg => rfl); (case hr => first | (go_simp; done) | (go_simp; rfl)); intro gb196 hg w31 hbox hb; have n0_ := Aside0.mk (Kd.R_below (by (with_reducible repeat (first | apply Kd.R_alloc | apply Kd.R_drewN | apply Kd.R_drew)); exact HO190.out) hb); have n1_ := Aside0.mk (below_step (by repeat (first | (with_reducible first | exact HB.out | apply below_alloc | apply pw_below_drewN | apply below_drew1) | exact HB.out)) hb); have n2_ := Aside0.mk (hbox); have n3_ := Aside0.mk ((by rw [hg]; exact (below_size (by repeat (first | (with_reducible first | exact HB.out | apply below_alloc | apply pw_below_drewN | apply below_drew1) | exact HB.out))) : w.heap.size ≤ gb196)); have n4_ := Aside0.mk ((by rw [hg]; exact (below_size (by repeat (first | (with_reducible first | exact HB.out | apply below_alloc | apply pw_below_drewN | apply below_drew1) | exact HB.out))) : w.heap.size ≤ gb196)); clear HO190; clear HB; have HO190 := n0_; have HB := n1_; have BK196 := n2_; have GW196 := n3_; have GE196 := n4_; clear n0_ n1_ n2_ n3_ n4_; clear hb hbox hg; have hcz32_0 : w31.cell? ⟨gb196, 0, none⟩ = some (.string (⟨#[]⟩ : ByteArray)) := (blk_cell BK196.out 0).trans rfl; have hcz32_1 : w31.cell? ⟨gb196, 1, none⟩ = some (.int .i64 0) := (blk_cell BK196.out 1).trans rfl; have hcz32_2 : w31.cell? ⟨gb196, 2, none⟩ = some (.int .i64 0) := (blk_cell BK196.out 2).trans rfl; have hcz32_3 : w31.cell? ⟨gb196, 3, none⟩ = some (.int .i64 0) := (blk_cell BK196.out 3).trans rfl; have hcz32_4 : w31.cell? ⟨gb196, 4, none⟩ = some (.int .i64 0) := (blk_cell BK196.out 4).trans rfl; have hfz32_0 := blk_frozen BK196.out 0; have hfz32_1 := blk_frozen BK196.out 1; have hfz32_2 := blk_frozen BK196.out 2; have hfz32_3 := blk_frozen BK196.out 3; have hfz32_4 := blk_frozen BK196.out 4; obtain ⟨Ao33, co33, eo33⟩ := Kd.R_slice HO190.out; subst eo33) | ((with_reducible refine gate_callee (f := 16) rfl ?_); refine goesL_ (some 36) rfl rfl Try.func16 (by kernel_rfl) rfl #[.int .i64 a2, .int .i64 (wrap64 ((t188.length : Int) - 1))] rfl (by (try simp only [List.map_toArray, List.map_cons, List.map_nil]); first | done | rfl | (simp only [List.length_drop, List.length_take]; rfl)) ?_; (with_reducible refine (railplankeep_Pick.calls a2 (wrap64 ((t188.length : Int) - 1)) t198 _ A17.out).mono ?_); rintro e w' ⟨rfl, ⟨nd, rfl⟩⟩; refine ⟨_, rfl, ?_⟩) | ((with_reducible refine gate_dst (N := 15) rfl ?_); (try (refine gate_guard (by rfl) ?_; dsimp only)); refine box_event ?hg (N := 15) ?hd (cs := #[.string (⟨#[]⟩ : ByteArray), .int .i64 0, .int .i64 0, .int .i64 0, .int .i64 0]) (t := 26) ?hr ?_; (case hd => rfl); (case hg => rfl); (case hr => first | (go_simp; done) | (go_simp; rfl)); intro gb199 hg w34 hbox hb; have n0_ := Aside0.mk (Kd.R_below (by (with_reducible repeat (first | apply Kd.R_alloc | apply Kd.R_drewN | apply Kd.R_drew)); exact (Kd.R_mono (Kd.R_far (p := ⟨gb196, 4, none⟩) (Kd.R_far (p := ⟨gb196, 3, none⟩) (Kd.R_far (p := ⟨gb196, 2, none⟩) (Kd.R_far (p := ⟨gb196, 1, none⟩) (Kd.R_far (p := ⟨gb196, 0, none⟩) (Kd.R_types HO190.out BK196.out (by decide)) (fun _ hk => hk.2) (.string t191)) (fun _ hk => hk.2) (.int .i64 t192)) (fun _ hk => hk.2) (.int .i64 t193)) (fun _ hk => hk.2) (.int .i64 t194)) (fun _ hk => hk.2) (.int .i64 t195)) (fun _ h_ => h_.1))) hb); have n1_ := Aside0.mk (blk_below (g := gb196) (o := .cells #[.string t191, .int .i64 t192, .int .i64 t193, .int .i64 t194, .int .i64 t195] 26 (0, 0)) (by (with_reducible repeat (first | refine blk_drewN ?_ _ | refine blk_drew ?_ | refine blk_alloc ?_ _)); refine blk_put (cs := #[.string t191, .int .i64 t192, .int .i64 t193, .int .i64 t194, .int .i64 0]) ?_ 4 _ rfl; (with_reducible repeat (first | refine blk_drewN ?_ _ | refine blk_drew ?_ | refine blk_alloc ?_ _)); refine blk_put (cs := #[.string t191, .int .i64 t192, .int .i64 t193, .int .i64 0, .int .i64 0]) ?_ 3 _ rfl; (with_reducible repeat (first | refine blk_drewN ?_ _ | refine blk_drew ?_ | refine blk_alloc ?_ _)); refine blk_put (cs := #[.string t191, .int .i64 t192, .int .i64 0, .int .i64 0, .int .i64 0]) ?_ 2 _ rfl; (with_reducible repeat (first | refine blk_drewN ?_ _ | refine blk_drew ?_ | refine blk_alloc ?_ _)); refine blk_put (cs := #[.string t191, .int .i64 0, .int .i64 0, .int .i64 0, .int .i64 0]) ?_ 1 _ rfl; (with_reducible repeat (first | refine blk_drewN ?_ _ | refine blk_drew ?_ | refine blk_alloc ?_ _)); refine blk_put (cs := #[.string (⟨#[]⟩ : ByteArray), .int .i64 0, .int .i64 0, .int .i64 0, .int .i64 0]) ?_ 0 _ rfl; (with_reducible repeat (first | refine blk_drewN ?_ _ | refine blk_drew ?_ | refine blk_alloc ?_ _)); exact BK196.out) hb); have n2_ := Aside0.mk (below_step (by repeat (first | (with_reducible first | exact HB.out | apply below_alloc | apply pw_below_drewN | apply below_drew1 | refine below_set ?_ GE196.out) | exact HB.out)) hb); have n3_ := Aside0.mk (hbox); have n4_ := Aside0.mk ((by rw [hg]; exact (below_size (by repeat (first | (with_reducible first | exact HB.out | apply below_alloc | apply pw_below_drewN | apply below_drew1 | refine below_set ?_ GE196.out) | exact HB.out))) : w.heap.size ≤ gb199)); have n5_ := Aside0.mk ((by rw [hg]; exact (below_size (by repeat (first | (with_reducible first | exact HB.out | apply below_alloc | apply pw_below_drewN | apply below_drew1 | refine below_set ?_ GE196.out) | exact HB.out))) : w.heap.size ≤ gb199)); have n6_ := Aside0.mk ((by rw [hg]; exact Nat.ne_of_lt (blk_lt (g := gb196) (o := .cells #[.string t191, .int .i64 t192, .int .i64 t193, .int .i64 t194, .int .i64 t195] 26 (0, 0)) (by (with_reducible repeat (first | refine blk_drewN ?_ _ | refine blk_drew ?_ | refine blk_alloc ?_ _)); refine blk_put (cs := #[.string t191, .int .i64 t192, .int .i64 t193, .int .i64 t194, .int .i64 0]) ?_ 4 _ rfl; (with_reducible repeat (first | refine blk_drewN ?_ _ | refine blk_drew ?_ | refine blk_alloc ?_ _)); refine blk_put (cs := #[.string t191, .int .i64 t192, .int .i64 t193, .int .i64 0, .int .i64 0]) ?_ 3 _ rfl; (with_reducible repeat (first | refine blk_drewN ?_ _ | refine blk_drew ?_ | refine blk_alloc ?_ _)); refine blk_put (cs := #[.string t191, .int .i64 t192, .int .i64 0, .int .i64 0, .int .i64 0]) ?_ 2 _ rfl; (with_reducible repeat (first | refine blk_drewN ?_ _ | refine blk_drew ?_ | refine blk_alloc ?_ _)); refine blk_put (cs := #[.string t191, .int .i64 0, .int .i64 0, .int .i64 0, .int .i64 0]) ?_ 1 _ rfl; (with_reducible repeat (first | refine blk_drewN ?_ _ | refine blk_drew ?_ | refine blk_alloc ?_ _)); refine blk_put (cs := #[.string (⟨#[]⟩ : ByteArray), .int .i64 0, .int .i64 0, .int .i64 0, .int .i64 0]) ?_ 0 _ rfl; (with_reducible repeat (first | refine blk_drewN ?_ _ | refine blk_drew ?_ | refine blk_alloc ?_ _)); exact BK196.out)) : gb196 ≠ gb199)); have n7_ := Aside0.mk ((by rw [hg]; exact Nat.ne_of_gt (blk_lt (g := gb196) (o := .cells #[.string t191, .int .i64 t192, .int .i64 t193, .int .i64 t194, .int .i64 t195] 26 (0, 0)) (by (with_reducible repeat (first | refine blk_drewN ?_ _ | refine blk_drew ?_ | refine blk_alloc ?_ _)); refine blk_put (cs := #[.string t191, .int .i64 t192, .int .i64 t193, .int .i64 t194, .int .i64 0]) ?_ 4 _ rfl; (with_reducible repeat (first | refine blk_drewN ?_ _ | refine blk_drew ?_ | refine blk_alloc ?_ _)); refine blk_put (cs := #[.string t191, .int .i64 t192, .int .i64 t193, .int .i64 0, .int .i64 0]) ?_ 3 _ rfl; (with_reducible repeat (first | refine blk_drewN ?_ _ | refine blk_drew ?_ | refine blk_alloc ?_ _)); refine blk_put (cs := #[.string t191, .int .i64 t192, .int .i64 0, .int .i64 0, .int .i64 0]) ?_ 2 _ rfl; (with_reducible repeat (first | refine blk_drewN ?_ _ | refine blk_drew ?_ | refine blk_alloc ?_ _)); refine blk_put (cs := #[.string t191, .int .i64 0, .int .i64 0, .int .i64 0, .int .i64 0]) ?_ 1 _ rfl; (with_reducible repeat (first | refine blk_drewN ?_ _ | refine blk_drew ?_ | refine blk_alloc ?_ _)); refine blk_put (cs := #[.string (⟨#[]⟩ : ByteArray), .int .i64 0, .int .i64 0, .int .i64 0, .int .i64 0]) ?_ 0 _ rfl; (with_reducible repeat (first | refine blk_drewN ?_ _ | refine blk_drew ?_ | refine blk_alloc ?_ _)); exact BK196.out)) : gb199 ≠ gb196)); clear HO190; clear BK196; clear HB; have HO190 := n0_; have BK196 := n1_; have HB := n2_; have BK199 := n3_; have GW199 := n4_; have GE199 := n5_; have NB196_199 := n6_; have NB199_196 := n7_; clear n0_ n1_ n2_ n3_ n4_ n5_ n6_ n7_; clear hb hbox hg; have hnb35 := NB199_196.out; have hnc35 := NB196_199.out; have hcz36_0 : w34.cell? ⟨gb199, 0, none⟩ = some (.string (⟨#[]⟩ : ByteArray)) := (blk_cell BK199.out 0).trans rfl; have hcz36_1 : w34.cell? ⟨gb199, 1, none⟩ = some (.int .i64 0) := (blk_cell BK199.out 1).trans rfl; have hcz36_2 : w34.cell? ⟨gb199, 2, none⟩ = some (.int .i64 0) := (blk_cell BK199.out 2).trans rfl; have hcz36_3 : w34.cell? ⟨gb199, 3, none⟩ = some (.int .i64 0) := (blk_cell BK199.out 3).trans rfl; have hcz36_4 : w34.cell? ⟨gb199, 4, none⟩ = some (.int .i64 0) := (blk_cell BK199.out 4).trans rfl; have hfz36_0 := blk_frozen BK199.out 0; have hfz36_1 := blk_frozen BK199.out 1; have hfz36_2 := blk_frozen BK199.out 2; have hfz36_3 := blk_frozen BK199.out 3; have hfz36_4 := blk_frozen BK199.out 4))
          have n0_ : Aside0 (Kd.R k34 34 (((((w34.setCell ⟨gb199, 0, none⟩ (.string t191)).setCell ⟨gb199, 1, none⟩ (.int .i64 t192)).setCell ⟨gb199, 2, none⟩ (.int .i64 t193)).setCell ⟨gb199, 3, none⟩ (.int .i64 t194)).setCell ⟨gb199, 4, none⟩ (.int .i64 t195)) w.heap.size (fun _ => True) (.slice Ao33 t188.length co33) t188) := ⟨by (with_reducible repeat (first | apply Kd.R_alloc | apply Kd.R_drewN | apply Kd.R_drew)); exact Kd.R_mono (Kd.R_far (p := ⟨gb199, 4, none⟩) (Kd.R_far (p := ⟨gb199, 3, none⟩) (Kd.R_far (p := ⟨gb199, 2, none⟩) (Kd.R_far (p := ⟨gb199, 1, none⟩) (Kd.R_far (p := ⟨gb199, 0, none⟩) (Kd.R_types HO190.out BK199.out (by decide)) (fun _ hk => hk.2) (.string t191)) (fun _ hk => hk.2) (.int .i64 t192)) (fun _ hk => hk.2) (.int .i64 t193)) (fun _ hk => hk.2) (.int .i64 t194)) (fun _ hk => hk.2) (.int .i64 t195)) (fun _ hk => trivial)⟩
          have n1_ : Aside0 ((((((w34.setCell ⟨gb199, 0, none⟩ (.string t191)).setCell ⟨gb199, 1, none⟩ (.int .i64 t192)).setCell ⟨gb199, 2, none⟩ (.int .i64 t193)).setCell ⟨gb199, 3, none⟩ (.int .i64 t194)).setCell ⟨gb199, 4, none⟩ (.int .i64 t195)).heap[gb196]? = some (.cells #[.string t191, .int .i64 t192, .int .i64 t193, .int .i64 t194, .int .i64 t195] 26 (0, 0))) := ⟨by (with_reducible repeat (first | refine blk_drewN ?_ _ | refine blk_drew ?_ | refine blk_alloc ?_ _)); refine blk_far ?_ NB196_199.out _; (with_reducible repeat (first | refine blk_drewN ?_ _ | refine blk_drew ?_ | refine blk_alloc ?_ _)); refine blk_far ?_ NB196_199.out _; (with_reducible repeat (first | refine blk_drewN ?_ _ | refine blk_drew ?_ | refine blk_alloc ?_ _)); refine blk_far ?_ NB196_199.out _; (with_reducible repeat (first | refine blk_drewN ?_ _ | refine blk_drew ?_ | refine blk_alloc ?_ _)); refine blk_far ?_ NB196_199.out _; (with_reducible repeat (first | refine blk_drewN ?_ _ | refine blk_drew ?_ | refine blk_alloc ?_ _)); refine blk_far ?_ NB196_199.out _; (with_reducible repeat (first | refine blk_drewN ?_ _ | refine blk_drew ?_ | refine blk_alloc ?_ _)); exact BK196.out⟩
          have n2_ : Aside0 ((((((w34.setCell ⟨gb199, 0, none⟩ (.string t191)).setCell ⟨gb199, 1, none⟩ (.int .i64 t192)).setCell ⟨gb199, 2, none⟩ (.int .i64 t193)).setCell ⟨gb199, 3, none⟩ (.int .i64 t194)).setCell ⟨gb199, 4, none⟩ (.int .i64 t195)).heap[gb199]? = some (.cells #[.string t191, .int .i64 t192, .int .i64 t193, .int .i64 t194, .int .i64 t195] 26 (0, 0))) := ⟨by (with_reducible repeat (first | refine blk_drewN ?_ _ | refine blk_drew ?_ | refine blk_alloc ?_ _)); refine blk_put (cs := #[.string t191, .int .i64 t192, .int .i64 t193, .int .i64 t194, .int .i64 0]) ?_ 4 _ rfl; (with_reducible repeat (first | refine blk_drewN ?_ _ | refine blk_drew ?_ | refine blk_alloc ?_ _)); refine blk_put (cs := #[.string t191, .int .i64 t192, .int .i64 t193, .int .i64 0, .int .i64 0]) ?_ 3 _ rfl; (with_reducible repeat (first | refine blk_drewN ?_ _ | refine blk_drew ?_ | refine blk_alloc ?_ _)); refine blk_put (cs := #[.string t191, .int .i64 t192, .int .i64 0, .int .i64 0, .int .i64 0]) ?_ 2 _ rfl; (with_reducible repeat (first | refine blk_drewN ?_ _ | refine blk_drew ?_ | refine blk_alloc ?_ _)); refine blk_put (cs := #[.string t191, .int .i64 0, .int .i64 0, .int .i64 0, .int .i64 0]) ?_ 1 _ rfl; (with_reducible repeat (first | refine blk_drewN ?_ _ | refine blk_drew ?_ | refine blk_alloc ?_ _)); refine blk_put (cs := #[.string (⟨#[]⟩ : ByteArray), .int .i64 0, .int .i64 0, .int .i64 0, .int .i64 0]) ?_ 0 _ rfl; (with_reducible repeat (first | refine blk_drewN ?_ _ | refine blk_drew ?_ | refine blk_alloc ?_ _)); exact BK199.out⟩
          have n3_ : Aside0 (Below w.heap.size w (((((w34.setCell ⟨gb199, 0, none⟩ (.string t191)).setCell ⟨gb199, 1, none⟩ (.int .i64 t192)).setCell ⟨gb199, 2, none⟩ (.int .i64 t193)).setCell ⟨gb199, 3, none⟩ (.int .i64 t194)).setCell ⟨gb199, 4, none⟩ (.int .i64 t195))) := ⟨by repeat (first | (with_reducible first | exact HB.out | apply below_alloc | apply pw_below_drewN | apply below_drew1 | refine below_set ?_ GE196.out | refine below_set ?_ GE199.out) | exact HB.out)⟩
          (try clear HO190)
          (try clear BK196)
          (try clear BK199)
          (try clear HB)
          generalize (((((w34.setCell ⟨gb199, 0, none⟩ (.string t191)).setCell ⟨gb199, 1, none⟩ (.int .i64 t192)).setCell ⟨gb199, 2, none⟩ (.int .i64 t193)).setCell ⟨gb199, 3, none⟩ (.int .i64 t194)).setCell ⟨gb199, 4, none⟩ (.int .i64 t195)) = w37 at n0_ n1_ n2_ n3_ ⊢
          have HO190 := n0_
          have BK196 := n1_
          have BK199 := n2_
          have HB := n3_
          clear n0_ n1_ n2_ n3_
          have n0_ := Aside0.mk (Kd.R_drew HO190.out)
          have n1_ := Aside0.mk (blk_drew BK196.out)
          have n2_ := Aside0.mk (blk_drew BK199.out)
          have n3_ := Aside0.mk (below_drew1 HB.out)
          clear HO190
          clear BK196
          clear BK199
          clear HB
          have HO190 := n0_
          have BK196 := n1_
          have BK199 := n2_
          have HB := n3_
          clear n0_ n1_ n2_ n3_
          refine start_ (n := 7) (S := fun w' => w'.cell? ⟨gb196, 0, none⟩ = some (.string t191) ∧ w'.cell? ⟨gb196, 1, none⟩ = some (.int .i64 t192) ∧ w'.cell? ⟨gb196, 2, none⟩ = some (.int .i64 t193) ∧ w'.cell? ⟨gb196, 3, none⟩ = some (.int .i64 t194) ∧ w'.cell? ⟨gb196, 4, none⟩ = some (.int .i64 t195)) (ds := []) #[false, false, false, false, false, false, false] (by kernel_rfl) rfl rfl ⟨(blk_cell BK196.out 0).trans rfl, (blk_cell BK196.out 1).trans rfl, (blk_cell BK196.out 2).trans rfl, (blk_cell BK196.out 3).trans rfl, (blk_cell BK196.out 4).trans rfl⟩ (fun hHeld => ?_)
          generalize w37.drew = w38 at HO190 BK196 BK199 HB hHeld ⊢
          refine pure_ (i := 0) (N := some 38) (v := ?_) (a' := ?_) #[true, false, false, false, false, false, false] rfl rfl (by kernel_rfl) (fun _ _ _ h => h) (Or.inl ⟨by rfl, ?_⟩) ?_ ?_
          rotate_left
          · intro w'
            go_simp
            with_reducible rfl
          rotate_left
          · simp only [Act.put, List.setIfInBounds_toArray, List.set_cons_zero, List.set_cons_succ, i64_w, i32_w]
            rfl
          refine pure_ (i := 2) (N := some 40) (v := ?_) (a' := ?_) #[true, false, true, false, false, false, false] rfl rfl (by kernel_rfl) (fun _ _ _ h => h) (Or.inl ⟨by rfl, ?_⟩) ?_ ?_
          rotate_left
          · intro w'
            go_simp
            with_reducible rfl
          rotate_left
          · simp only [Act.put, List.setIfInBounds_toArray, List.set_cons_zero, List.set_cons_succ, i64_w, i32_w]
            rfl
          refine take_ (i := 1) (N := some 39) (v := ?_) (a' := ?_) #[true, true, true, false, false, false, false] rfl rfl (by kernel_rfl) (fun _ _ _ h => h) (Or.inl ⟨by rfl, ?_⟩) hHeld ?_ ?_
          rotate_left
          · rintro w' ⟨s0, s1, s2, s3, s4⟩
            go_simp
            with_reducible rfl
          rotate_left
          · simp only [Act.put, List.setIfInBounds_toArray, List.set_cons_zero, List.set_cons_succ, i64_w, i32_w]
            rfl
          refine one_ (i := 3) (N := some 41) #[true, true, true, true, false, false, false] rfl rfl (by kernel_rfl) (by decide) (fun K hK => ?_)
          refine goes_ Try.func16 (by kernel_rfl) rfl #[.int .i64 a3, .int .i64 10] (by rfl) rfl rfl (by (try simp only [List.map_toArray, List.map_cons, List.map_nil]); first | done | rfl | (simp only [List.length_drop, List.length_take]; rfl)) ?_
          with_reducible refine (railplankeep_Pick.calls a3 10 t200 _ A18.out).mono ?_
          rintro e w' ⟨rfl, ⟨nd, rfl⟩⟩
          refine ⟨_, rfl, ?_⟩
          refine hK.out _ _ ⟨(blk_cell BK196.out 0).trans rfl, (blk_cell BK196.out 1).trans rfl, (blk_cell BK196.out 2).trans rfl, (blk_cell BK196.out 3).trans rfl, (blk_cell BK196.out 4).trans rfl⟩ (fun hHeld => ?_)
          clear hK K
          refine norm_ (a' := ?_) ?_ ?_
          rotate_left
          · show Act.put _ (some 41) _ = _
            simp only [Act.put, List.setIfInBounds_toArray, List.set_cons_zero, List.set_cons_succ, i64_w, i32_w]
            rfl
          refine pure_ (i := 4) (N := some 42) (v := ?_) (a' := ?_) #[true, true, true, true, true, false, false] rfl rfl (by kernel_rfl) (fun _ _ _ h => h) (Or.inl ⟨by rfl, ?_⟩) ?_ ?_
          rotate_left
          · intro w'
            go_simp
            with_reducible rfl
          rotate_left
          · simp only [Act.put, List.setIfInBounds_toArray, List.set_cons_zero, List.set_cons_succ, i64_w, i32_w]
            rfl
          refine pure_ (i := 5) (N := some 43) (v := ?_) (a' := ?_) #[true, true, true, true, true, true, false] rfl rfl (by kernel_rfl) (fun _ _ _ h => h) (Or.inl ⟨by rfl, ?_⟩) ?_ ?_
          rotate_left
          · intro w'
            go_simp
            with_reducible rfl
          rotate_left
          · simp only [Act.put, List.setIfInBounds_toArray, List.set_cons_zero, List.set_cons_succ, i64_w, i32_w]
            rfl
          refine one_ (i := 6) (N := none) #[true, true, true, true, true, true, true] rfl rfl (by kernel_rfl) (by decide) (fun K hK => ?_)
          have hs39 : w38.cell? ⟨gb199, 1, none⟩ = some (.int .i64 t192) := (blk_cell BK199.out 1).trans rfl
          have hfs39 := blk_frozen BK199.out 1
          have hns39_0 := NB196_199.out
          have hms39_0 := NB199_196.out
          refine skip_ (w1 := ?_) (by rfl) rfl ?_ ?_
          rotate_left
          · go_simp
            rfl
          refine hK.out _ _ ⟨((cell_far (p := ⟨gb199, _, none⟩) NB196_199.out _).trans (hHeld.1)), ((cell_far (p := ⟨gb199, _, none⟩) NB196_199.out _).trans (hHeld.2.1)), ((cell_far (p := ⟨gb199, _, none⟩) NB196_199.out _).trans (hHeld.2.2.1)), ((cell_far (p := ⟨gb199, _, none⟩) NB196_199.out _).trans (hHeld.2.2.2.1)), ((cell_far (p := ⟨gb199, _, none⟩) NB196_199.out _).trans (hHeld.2.2.2.2))⟩ (fun hHeld => ?_)
          clear hK K
          refine done_ (by kernel_rfl) ?_
          try go_wp2_with (first | ((with_reducible refine gate_builtin (b := .append) (xs := #[.const (.slice none 0 0), .tmp 44]) rfl ?_); (try (refine gate_guard (by rfl) ?_; dsimp only)); at_builtin; refine Kd.R_append_rows k34 (w0 := w) w.heap.size rfl (.const (.slice none 0 0)) (.tmp 44) 23 34 (.agg #[(.int .i64 0), (.int .i64 0)]) 16 rfl Try.underlying23 info34 rfl (by decide) (by omega) (.slice none 0 0) ([] : List (S34)) t188 _ _ _ (fun k_ => some k_ ≠ (.slice Ao33 t188.length co33 : Value).ownBlock) (fun _ => False) rfl rfl ?aO ?aR (fun _ _ h => h) (fun _ h => h.elim) ?aF ?aB ?aS ?aL ?_; (case aR => refine (Kd.R_reads' (e := 34) (base := w.heap.size) (ok := fun k_ => True) (n := t188.length) (c := co33) ?_).2.2; exact (by (with_reducible repeat (first | apply Kd.R_alloc | apply Kd.R_drewN | apply Kd.R_drew)); exact (Kd.R_mono (Kd.R_far (p := ⟨gb199, 1, none⟩) (Kd.R_types HO190.out BK199.out (by decide)) (fun _ hk => hk.2) (.int .i64 (wrap64 (t192 + t200)))) (fun _ h_ => h_.1)))); (case aB => exact (by repeat (first | (with_reducible first | exact HB.out | apply below_alloc | apply pw_below_drewN | apply below_drew1 | refine below_set ?_ GE196.out | refine below_set ?_ GE199.out) | exact HB.out))); (case aF => exact (fun k_ hk => Kd.fresh' (Kd.R_lt (by (with_reducible repeat (first | apply Kd.R_alloc | apply Kd.R_drewN | apply Kd.R_drew)); exact (Kd.R_mono (Kd.R_far (p := ⟨gb199, 1, none⟩) (Kd.R_types HO190.out BK199.out (by decide)) (fun _ hk => hk.2) (.int .i64 (wrap64 (t192 + t200)))) (fun _ h_ => h_.1)))) k_ hk)); (case aO => exact ((Kd.R_nil _ _ _ _ (fun k_ => some k_ ≠ (.slice Ao33 t188.length co33 : Value).ownBlock)))); (case aS => exact (below_size (by repeat (first | (with_reducible first | exact HB.out | apply below_alloc | apply pw_below_drewN | apply below_drew1 | refine below_set ?_ GE196.out | refine below_set ?_ GE199.out) | exact HB.out)))); (case aL => have := LMc19.out; omega); intro v202 w40 ho hb hg hat; rw [← Ny201.out] at ho; have n0_ := Aside0.mk (Kd.R_after (Kd.R_apart_nil (by (with_reducible repeat (first | apply Kd.R_alloc | apply Kd.R_drewN | apply Kd.R_drew)); exact (Kd.R_mono (Kd.R_far (p := ⟨gb199, 1, none⟩) (Kd.R_types HO190.out BK199.out (by decide)) (fun _ hk => hk.2) (.int .i64 (wrap64 (t192 + t200)))) (fun _ h_ => h_.1)))) hg hat); have n1_ := Aside0.mk (blk_grown (g := gb196) (o := .cells #[.string t191, .int .i64 t192, .int .i64 t193, .int .i64 t194, .int .i64 t195] 26 (0, 0)) (by (with_reducible repeat (first | refine blk_drewN ?_ _ | refine blk_drew ?_ | refine blk_alloc ?_ _)); refine blk_far ?_ NB196_199.out _; (with_reducible repeat (first | refine blk_drewN ?_ _ | refine blk_drew ?_ | refine blk_alloc ?_ _)); exact BK196.out) hg (by simp [Value.ownBlock])); have n2_ := Aside0.mk (blk_grown (g := gb199) (o := .cells #[.string t191, .int .i64 (wrap64 (t192 + t200)), .int .i64 t193, .int .i64 t194, .int .i64 t195] 26 (0, 0)) (by (with_reducible repeat (first | refine blk_drewN ?_ _ | refine blk_drew ?_ | refine blk_alloc ?_ _)); refine blk_put (cs := #[.string t191, .int .i64 t192, .int .i64 t193, .int .i64 t194, .int .i64 t195]) ?_ 1 _ rfl; (with_reducible repeat (first | refine blk_drewN ?_ _ | refine blk_drew ?_ | refine blk_alloc ?_ _)); exact BK199.out) hg (by simp [Value.ownBlock])); have n3_ := Aside0.mk (hb); have n4_ := Aside0.mk (ho); clear HO190; clear BK196; clear BK199; clear HB; have HO190 := n0_; have BK196 := n1_; have BK199 := n2_; have HB := n3_; have HO203 := n4_; clear n0_ n1_ n2_ n3_ n4_; clear ho hb hg hat; obtain ⟨Ao41, co41, eo41⟩ := Kd.R_slice HO203.out; subst eo41) | ((with_reducible refine gate_callee (f := 16) rfl ?_); refine goesL_ (some 49) rfl rfl Try.func16 (by kernel_rfl) rfl #[.int .i64 a4, .int .i64 (y201.length : Int)] rfl (by (try simp only [List.map_toArray, List.map_cons, List.map_nil]); first | done | rfl | (simp only [List.length_drop, List.length_take]; rfl)) ?_; (with_reducible refine (railplankeep_Pick.calls a4 (y201.length : Int) t204 _ A20.out).mono ?_); rintro e w' ⟨rfl, ⟨nd, rfl⟩⟩; refine ⟨_, rfl, ?_⟩; (try (rw [drewN_self w40]; generalize hq_ : World.drewN w40 _ = w40; have n0_ : Aside0 (Kd.R k34 34 w40 w.heap.size (fun k_ => some k_ ≠ (.slice Ao41 y201.length co41 : Value).ownBlock) (.slice Ao33 t188.length co33) t188) := ⟨by rw [← hq_]; exact (by (with_reducible repeat (first | apply Kd.R_alloc | apply Kd.R_drewN | apply Kd.R_drew)); exact Kd.R_mono HO190.out (fun _ hk => hk.2))⟩; have n1_ : Aside0 (Kd.R k34 34 w40 w.heap.size (fun k_ => some k_ ≠ (.slice Ao33 t188.length co33 : Value).ownBlock) (.slice Ao41 y201.length co41) y201) := ⟨by rw [← hq_]; exact (by (with_reducible repeat (first | apply Kd.R_alloc | apply Kd.R_drewN | apply Kd.R_drew)); exact HO203.out)⟩; have n2_ : Aside0 (w40.heap[gb196]? = some (.cells #[.string t191, .int .i64 t192, .int .i64 t193, .int .i64 t194, .int .i64 t195] 26 (0, 0))) := ⟨by rw [← hq_]; exact (by (with_reducible repeat (first | refine blk_drewN ?_ _ | refine blk_drew ?_ | refine blk_alloc ?_ _)); exact BK196.out)⟩; have n3_ : Aside0 (w40.heap[gb199]? = some (.cells #[.string t191, .int .i64 (wrap64 (t192 + t200)), .int .i64 t193, .int .i64 t194, .int .i64 t195] 26 (0, 0))) := ⟨by rw [← hq_]; exact (by (with_reducible repeat (first | refine blk_drewN ?_ _ | refine blk_drew ?_ | refine blk_alloc ?_ _)); exact BK199.out)⟩; have n4_ : Aside0 (Below w.heap.size w w40) := ⟨by rw [← hq_]; exact (by repeat (first | (with_reducible first | exact HB.out | apply below_alloc | apply pw_below_drewN | apply below_drew1 | refine below_set ?_ GE196.out | refine below_set ?_ GE199.out) | exact HB.out))⟩; clear HO190 HO203 BK196 BK199 HB hq_; have HO190 := n0_; have HO203 := n1_; have BK196 := n2_; have BK199 := n3_; have HB := n4_; clear n0_ n1_ n2_ n3_ n4_))))
          have n0_ := Aside0.mk (Kd.R_drew HO190.out)
          have n1_ := Aside0.mk (Kd.R_drew HO203.out)
          have n2_ := Aside0.mk (blk_drew BK196.out)
          have n3_ := Aside0.mk (blk_drew BK199.out)
          have n4_ := Aside0.mk (below_drew1 HB.out)
          clear HO190
          clear HO203
          clear BK196
          clear BK199
          clear HB
          have HO190 := n0_
          have HO203 := n1_
          have BK196 := n2_
          have BK199 := n3_
          have HB := n4_
          clear n0_ n1_ n2_ n3_ n4_
          have p205 : 0 ≤ (t204 : Int) := of_decide_eq_true (by first | (with_reducible assumption) | assumption)
          have q205 : t204 < (y201.length : Int) := of_decide_eq_true (by first | (with_reducible assumption) | assumption)
          obtain ⟨ad205, e205, hx205_0, hx205_1⟩ := at_T34 (Kd.R_reads' HO203.out).2.2 t204 p205 q205
          cases e205
          replace p205 := eq_true p205
          replace q205 := eq_true q205
          refine start_ (n := 14) (S := fun w' => w'.cell? (ad205.add ((t204).toNat * 2)) = some (.int .i64 ((rd_T34 y201 t204).f0)) ∧ w'.cell? ⟨(ad205.add ((t204).toNat * 2)).block, (ad205.add ((t204).toNat * 2)).off + 1, none⟩ = some (.int .i64 ((rd_T34 y201 t204).f1))) (ds := [13]) #[false, false, false, false, false, false, false, false, false, false, false, false, false, false] (by kernel_rfl) rfl rfl ⟨hx205_0, hx205_1⟩ (fun hHeld => ?_); refine with_tabW railplanlaw6_DynamicsLongerIsNotEarlier.tab9 railplanlaw6_DynamicsLongerIsNotEarlier.bits9 (fun HT_ HW_ => ?_)
          generalize w40.drew = w42 at HO190 HO203 BK196 BK199 HB hx205_0 hx205_1 hHeld ⊢
          refine pure_ (i := 0) (N := some 50) (v := ?_) (a' := ?_) #[true, false, false, false, false, false, false, false, false, false, false, false, false, false] rfl rfl (any_of HT_.out (by kernel_rfl)) (fun _ _ _ h => h) (Or.inl ⟨by rfl, ?_⟩) ?_ ?_
          rotate_left
          · intro w'
            go_simp
            with_reducible rfl
          rotate_left
          · simp only [Act.put, List.setIfInBounds_toArray, List.set_cons_zero, List.set_cons_succ, i64_w, i32_w]
            rfl
          refine pure_ (i := 1) (N := some 51) (v := ?_) (a' := ?_) #[true, true, false, false, false, false, false, false, false, false, false, false, false, false] rfl rfl (any_of HT_.out (by kernel_rfl)) (fun _ _ _ h => h) (Or.inl ⟨by rfl, ?_⟩) ?_ ?_
          rotate_left
          · intro w'
            go_simp
            with_reducible rfl
          rotate_left
          · simp only [Act.put, List.setIfInBounds_toArray, List.set_cons_zero, List.set_cons_succ, i64_w, i32_w]
            rfl
          refine pure_ (i := 2) (N := some 52) (v := ?_) (a' := ?_) #[true, true, true, false, false, false, false, false, false, false, false, false, false, false] rfl rfl (any_of HT_.out (by kernel_rfl)) (fun _ _ _ h => h) (Or.inl ⟨by rfl, ?_⟩) ?_ ?_
          rotate_left
          · intro w'
            go_simp
            with_reducible rfl
          rotate_left
          · simp only [Act.put, List.setIfInBounds_toArray, List.set_cons_zero, List.set_cons_succ, i64_w, i32_w]
            rfl
          refine pure_ (i := 3) (N := some 53) (v := ?_) (a' := ?_) #[true, true, true, true, false, false, false, false, false, false, false, false, false, false] rfl rfl (any_of HT_.out (by kernel_rfl)) (fun _ _ _ h => h) (Or.inl ⟨by rfl, ?_⟩) ?_ ?_
          rotate_left
          · intro w'
            go_simp
            with_reducible rfl
          rotate_left
          · simp only [Act.put, List.setIfInBounds_toArray, List.set_cons_zero, List.set_cons_succ, i64_w, i32_w]
            rfl
          refine pure_ (i := 4) (N := some 54) (v := ?_) (a' := ?_) #[true, true, true, true, true, false, false, false, false, false, false, false, false, false] rfl rfl (any_of HT_.out (by kernel_rfl)) (fun _ _ _ h => h) (Or.inl ⟨by rfl, ?_⟩) ?_ ?_
          rotate_left
          · intro w'
            go_simp
            with_reducible rfl
          rotate_left
          · simp only [Act.put, List.setIfInBounds_toArray, List.set_cons_zero, List.set_cons_succ, i64_w, i32_w]
            rfl
          refine pure_ (i := 5) (N := some 55) (v := ?_) (a' := ?_) #[true, true, true, true, true, true, false, false, false, false, false, false, false, false] rfl rfl (any_of HT_.out (by kernel_rfl)) (fun _ _ _ h => h) (Or.inl ⟨by rfl, ?_⟩) ?_ ?_
          rotate_left
          · intro w'
            go_simp
            with_reducible rfl
          rotate_left
          · simp only [Act.put, List.setIfInBounds_toArray, List.set_cons_zero, List.set_cons_succ, i64_w, i32_w]
            rfl
          refine pure_ (i := 7) (N := some 57) (v := ?_) (a' := ?_) #[true, true, true, true, true, true, false, true, false, false, false, false, false, false] rfl rfl (any_of HT_.out (by kernel_rfl)) (fun _ _ _ h => h) (Or.inl ⟨by rfl, ?_⟩) ?_ ?_
          rotate_left
          · intro w'
            go_simp
            with_reducible rfl
          rotate_left
          · simp only [Act.put, List.setIfInBounds_toArray, List.set_cons_zero, List.set_cons_succ, i64_w, i32_w]
            rfl
          refine take_ (i := 6) (N := some 56) (v := ?_) (a' := ?_) #[true, true, true, true, true, true, true, true, false, false, false, false, false, false] rfl rfl (take_ofW HT_.out HW_.out (by kernel_rfl)) (fun _ _ _ h => h) (Or.inl ⟨by rfl, ?_⟩) hHeld ?_ ?_
          rotate_left
          · rintro w' ⟨s0, s1⟩
            go_simp
            with_reducible rfl
          rotate_left
          · simp only [Act.put, List.setIfInBounds_toArray, List.set_cons_zero, List.set_cons_succ, i64_w, i32_w]
            rfl
          refine one_ (i := 8) (N := some 58) #[true, true, true, true, true, true, true, true, true, false, false, false, false, false] rfl rfl (one_of HT_.out (by kernel_rfl)) (by decide) (fun K hK => ?_)
          refine goes_ Try.func16 (by kernel_rfl) rfl #[.int .i64 a5, .int .i64 20000] (by rfl) rfl rfl (by (try simp only [List.map_toArray, List.map_cons, List.map_nil]); first | done | rfl | (simp only [List.length_drop, List.length_take]; rfl)) ?_
          with_reducible refine (railplankeep_Pick.calls a5 20000 t206 _ A23.out).mono ?_
          rintro e w' ⟨rfl, ⟨nd, rfl⟩⟩
          refine ⟨_, rfl, ?_⟩
          have p25 : 0 ≤ (t204 : Int) := of_decide_eq_true (by first | (with_reducible assumption) | assumption)
          have q25 : (t204 : Int) < ((y201.length : Int) : Int) := of_decide_eq_true (by first | (with_reducible assumption) | assumption)
          obtain ⟨go25, co25, eo25, gb25, gl25, cl25, HG25⟩ := Kd.R_form HO203.out (by omega)
          (first | cases eo25 | (injection eo25 with ea_ en_ ec_; (first | subst ea_ | (injection ea_ with ea_; subst ea_)); subst ec_; clear en_))
          have GB25 := Aside0.mk gb25
          have GG25 := Aside0.mk HG25
          clear gb25 gl25 HG25
          (first | simp only [add_plain] at hx205_0 | skip)
          (first | simp only [add_plain] at hx205_1 | skip)
          obtain ⟨ce25, hcl25, hM25, hcc25, hfr25⟩ := Kd.R_elem HO203.out z34 (t204 : Int) p25 q25
          obtain rfl := k34_openM hM25
          have hx25_0 : World.cell? _ ⟨go25, (t204 : Int).toNat * 2, none⟩ = some (.int .i64 ((rd_T34 y201 t204).f0)) := hcc25 0 _ rfl
          have hx25_1 : World.cell? _ ⟨go25, (t204 : Int).toNat * 2 + 1, none⟩ = some (.int .i64 ((rd_T34 y201 t204).f1)) := hcc25 1 _ rfl
          have hf25_0 : World.frozen? _ ⟨go25, (t204 : Int).toNat * 2, none⟩ = false := hfr25 0
          have hf25_1 : World.frozen? _ ⟨go25, (t204 : Int).toNat * 2 + 1, none⟩ = false := hfr25 1
          clear hcl25 hcc25 hfr25 hM25
          replace p25 := eq_true p25
          replace q25 := eq_true q25
          obtain ⟨ce43, hcl43, hM43, hcc43, hfr43⟩ := Kd.R_elem HO203.out z34 (t204 : Int) (of_decide_eq_true (by first | (with_reducible assumption) | assumption)) (by have h_ : (t204 : Int) < ((y201.length : Int) : Int) := of_decide_eq_true (by first | (with_reducible assumption) | assumption); first | exact h_ | (have e_ := (Kd.R_reads' HO203.out).1; omega) | simpa using h_)
          obtain rfl := k34_openM hM43
          have HP43 := (Kd.R_seg HO203.out (t204 : Int) (of_decide_eq_true (by first | (with_reducible assumption) | assumption)) (by have h_ : (t204 : Int) < ((y201.length : Int) : Int) := of_decide_eq_true (by first | (with_reducible assumption) | assumption); first | exact h_ | (have e_ := (Kd.R_reads' HO203.out).1; omega) | simpa using h_) (seg := [.int .i64 ji24]) (j := 0) hcl43 hcc43 (show 1 ≤ 2 from by decide) (x' := (⟨ji24, (rd_T34 y201 t204).f1⟩ : S34)) (k34_mkM _ _ _ (⟨ji24, (rd_T34 y201 t204).f1⟩ : S34) ) (fun _ hk => hk)).1
          rw [← Ny207.out] at HP43
          have HQ43 := Aside0.mk HP43
          clear hcl43 hcc43 hfr43 hM43 HP43
          refine hK.out _ _ ⟨hHeld.1, hHeld.2⟩ (fun hHeld => ?_)
          clear hK K
          refine norm_ (a' := ?_) ?_ ?_
          rotate_left
          · show Act.put _ (some 58) _ = _
            simp only [Act.put, List.setIfInBounds_toArray, List.set_cons_zero, List.set_cons_succ, i64_w, i32_w]
            rfl
          refine pure_ (i := 9) (N := some 59) (v := ?_) (a' := ?_) #[true, true, true, true, true, true, true, true, true, true, false, false, false, false] rfl rfl (any_of HT_.out (by kernel_rfl)) (fun _ _ _ h => h) (Or.inl ⟨by rfl, ?_⟩) ?_ ?_
          rotate_left
          · intro w'
            go_simp
            with_reducible rfl
          rotate_left
          · simp only [Act.put, List.setIfInBounds_toArray, List.set_cons_zero, List.set_cons_succ, i64_w, i32_w]
            rfl
          refine pure_ (i := 10) (N := some 60) (v := ?_) (a' := ?_) #[true, true, true, true, true, true, true, true, true, true, true, false, false, false] rfl rfl (any_of HT_.out (by kernel_rfl)) (fun _ _ _ h => h) (Or.inl ⟨by rfl, ?_⟩) ?_ ?_
          rotate_left
          · intro w'
            go_simp
            with_reducible rfl
          rotate_left
          · simp only [Act.put, List.setIfInBounds_toArray, List.set_cons_zero, List.set_cons_succ, i64_w, i32_w]
            rfl
          refine pure_ (i := 11) (N := some 61) (v := ?_) (a' := ?_) #[true, true, true, true, true, true, true, true, true, true, true, true, false, false] rfl rfl (any_of HT_.out (by kernel_rfl)) (fun _ _ _ h => h) (Or.inl ⟨by rfl, ?_⟩) ?_ ?_
          rotate_left
          · intro w'
            go_simp
            with_reducible rfl
          rotate_left
          · simp only [Act.put, List.setIfInBounds_toArray, List.set_cons_zero, List.set_cons_succ, i64_w, i32_w]
            rfl
          refine pure_ (i := 12) (N := some 62) (v := ?_) (a' := ?_) #[true, true, true, true, true, true, true, true, true, true, true, true, true, false] rfl rfl (any_of HT_.out (by kernel_rfl)) (fun _ _ _ h => h) (Or.inl ⟨by rfl, ?_⟩) ?_ ?_
          rotate_left
          · intro w'
            go_simp
            with_reducible rfl
          rotate_left
          · simp only [Act.put, List.setIfInBounds_toArray, List.set_cons_zero, List.set_cons_succ, i64_w, i32_w]
            rfl
          refine last_ (i := 13) (N := none) #[true, true, true, true, true, true, true, true, true, true, true, true, true, true] rfl rfl (one_of HT_.out (by kernel_rfl)) (by decide) (fun K hK => ?_)
          refine skip_ (w1 := ?_) (by rfl) rfl ?_ ?_
          rotate_left
          · go_simp
            rfl
          refine hK.out _ _ ?_
          clear hK K
          refine done_ (done_of HT_.out (by kernel_rfl)) ?_
          have hcz44_0 : w42.cell? ⟨gb196, 0, none⟩ = some (.string t191) := (blk_cell BK196.out 0).trans rfl
          have hcz44_1 : w42.cell? ⟨gb196, 1, none⟩ = some (.int .i64 t192) := (blk_cell BK196.out 1).trans rfl
          have hcz44_2 : w42.cell? ⟨gb196, 2, none⟩ = some (.int .i64 t193) := (blk_cell BK196.out 2).trans rfl
          have hcz44_3 : w42.cell? ⟨gb196, 3, none⟩ = some (.int .i64 t194) := (blk_cell BK196.out 3).trans rfl
          have hcz44_4 : w42.cell? ⟨gb196, 4, none⟩ = some (.int .i64 t195) := (blk_cell BK196.out 4).trans rfl
          have hfz44_0 := blk_frozen BK196.out 0
          have hfz44_1 := blk_frozen BK196.out 1
          have hfz44_2 := blk_frozen BK196.out 2
          have hfz44_3 := blk_frozen BK196.out 3
          have hfz44_4 := blk_frozen BK196.out 4
          have hne44_gb196 : go25 ≠ gb196 := by
            intro e_
            obtain ⟨c_, hc_⟩ := Kd.R_typed HO203.out go25 rfl
            rw [e_, BK196.out] at hc_
            simp at hc_
          have hne45_gb196 := Ne.symm hne44_gb196
          have hne44_gb199 : go25 ≠ gb199 := by
            intro e_
            obtain ⟨c_, hc_⟩ := Kd.R_typed HO203.out go25 rfl
            rw [e_, BK199.out] at hc_
            simp at hc_
          have hne45_gb199 := Ne.symm hne44_gb199
          have HO190q := Aside0.mk (Kd.R_mono (ok' := fun k_ => True ∧ some k_ ≠ (.slice (some ⟨go25, 0, none⟩) y201.length co41 : Value).ownBlock) HO190.out (fun _ h => ⟨trivial, h⟩))
          clear HO190
          have HO190 := HO190q
          clear HO190q
          go_upto_region 12 with (first | ((with_reducible refine gate_callee (f := 19) rfl ?_); refine goesL_ (some 67) rfl rfl Try.func19 (by kernel_rfl) rfl #[.slice Ao33 t188.length co33, .int .i64 t198, .agg #[.string t191, .int .i64 t192, .int .i64 t193, .int .i64 t194, .int .i64 t195]] rfl (by (try simp only [List.map_toArray, List.map_cons, List.map_nil]); first | done | rfl | (simp only [List.length_drop, List.length_take]; rfl)) ?_; (with_reducible refine (dynamics_Times.calls k _ _ t188 t198 t191 t192 t193 t194 t195 t208 t211 _ ?side1 ?side2 A26.out).mono ?_); (case side1 => refine (Kd.R_reads' (e := 34) (base := w.heap.size) (ok := fun k_ => (True ∧ some k_ ≠ (.slice (some ⟨go25, 0, none⟩) y201.length co41 : Value).ownBlock)) (n := t188.length) (c := co33) ?_).2.2; exact (by (with_reducible repeat (first | apply Kd.R_alloc | apply Kd.R_drewN | apply Kd.R_drew)); exact (Kd.R_mono (Kd.R_far (p := ⟨go25, (t204 : Int).toNat * 2, none⟩) (Kd.R_mono HO190.out (fun k_ hk => (⟨hk, fun e_ => hk.2 (by rw [e_]; rfl)⟩ : _ ∧ k_ ≠ go25))) (fun _ hk => hk.2) (.int .i64 ji24)) (fun _ h_ => h_.1)))); (case side2 => exact (Kd.R_reads' HO190.out).2.1); rintro e w45 ⟨v209, rfl, ho0, hb⟩; refine ⟨_, rfl, ?_⟩; have n0_ := Aside0.mk (Kd.R_below (by (with_reducible repeat (first | apply Kd.R_alloc | apply Kd.R_drewN | apply Kd.R_drew)); exact (Kd.R_mono (Kd.R_far (p := ⟨go25, (t204 : Int).toNat * 2, none⟩) (Kd.R_mono HO190.out (fun k_ hk => (⟨hk, fun e_ => hk.2 (by rw [e_]; rfl)⟩ : _ ∧ k_ ≠ go25))) (fun _ hk => hk.2) (.int .i64 ji24)) (fun _ h_ => h_.1))) hb); have n1_ := Aside0.mk (Kd.R_below (by (with_reducible repeat (first | apply Kd.R_alloc | apply Kd.R_drewN | apply Kd.R_drew)); exact HQ43.out) hb); have n2_ := Aside0.mk (Kd.R_lower ho0 (below_size (by repeat (first | (with_reducible first | exact HB.out | apply below_alloc | apply pw_below_drewN | apply below_drew1 | refine below_set ?_ GB25.out | refine below_set ?_ GE196.out | refine below_set ?_ GE199.out) | exact HB.out)))); have n3_ := Aside0.mk (blk_below (g := gb196) (o := .cells #[.string t191, .int .i64 t192, .int .i64 t193, .int .i64 t194, .int .i64 t195] 26 (0, 0)) (by (with_reducible repeat (first | refine blk_drewN ?_ _ | refine blk_drew ?_ | refine blk_alloc ?_ _)); refine blk_far ?_ (by have h_ := Kd.R_ne HO203.out BK196.out (by decide); intro e_; exact h_ (by rw [e_]; rfl)) _; (with_reducible repeat (first | refine blk_drewN ?_ _ | refine blk_drew ?_ | refine blk_alloc ?_ _)); exact BK196.out) hb); have n4_ := Aside0.mk (blk_below (g := gb199) (o := .cells #[.string t191, .int .i64 (wrap64 (t192 + t200)), .int .i64 t193, .int .i64 t194, .int .i64 t195] 26 (0, 0)) (by (with_reducible repeat (first | refine blk_drewN ?_ _ | refine blk_drew ?_ | refine blk_alloc ?_ _)); refine blk_far ?_ (by have h_ := Kd.R_ne HO203.out BK199.out (by decide); intro e_; exact h_ (by rw [e_]; rfl)) _; (with_reducible repeat (first | refine blk_drewN ?_ _ | refine blk_drew ?_ | refine blk_alloc ?_ _)); exact BK199.out) hb); have n5_ := Aside0.mk (below_step (by repeat (first | (with_reducible first | exact HB.out | apply below_alloc | apply pw_below_drewN | apply below_drew1 | refine below_set ?_ GB25.out | refine below_set ?_ GE196.out | refine below_set ?_ GE199.out) | exact HB.out)) hb); clear HO190; clear HO203; clear BK196; clear BK199; clear HB; have HO190 := n0_; have HO203 := n1_; have HO210 := n2_; have BK196 := n3_; have BK199 := n4_; have HB := n5_; clear n0_ n1_ n2_ n3_ n4_ n5_; (try clear hb); (try clear hb2); (try clear hk); (try clear hi); (try clear ho0); have hcz46_0 : w45.cell? ⟨gb199, 0, none⟩ = some (.string t191) := (blk_cell BK199.out 0).trans rfl; have hcz46_1 : w45.cell? ⟨gb199, 1, none⟩ = some (.int .i64 (wrap64 (t192 + t200))) := (blk_cell BK199.out 1).trans rfl; have hcz46_2 : w45.cell? ⟨gb199, 2, none⟩ = some (.int .i64 t193) := (blk_cell BK199.out 2).trans rfl; have hcz46_3 : w45.cell? ⟨gb199, 3, none⟩ = some (.int .i64 t194) := (blk_cell BK199.out 3).trans rfl; have hcz46_4 : w45.cell? ⟨gb199, 4, none⟩ = some (.int .i64 t195) := (blk_cell BK199.out 4).trans rfl; have hfz46_0 := blk_frozen BK199.out 0; have hfz46_1 := blk_frozen BK199.out 1; have hfz46_2 := blk_frozen BK199.out 2; have hfz46_3 := blk_frozen BK199.out 3; have hfz46_4 := blk_frozen BK199.out 4) | ((with_reducible refine gate_callee (f := 19) rfl ?_); refine goesL_ (some 74) rfl rfl Try.func19 (by kernel_rfl) rfl #[.slice (some ⟨go25, 0, none⟩) y207.length co41, .int .i64 t198, .agg #[.string t191, .int .i64 (wrap64 (t192 + t200)), .int .i64 t193, .int .i64 t194, .int .i64 t195]] rfl (by (try simp only [List.map_toArray, List.map_cons, List.map_nil]); first | done | (rw [show y207.length = y201.length from (Kd.R_reads' HO203.out).1.symm] <;> rfl) | rfl | (simp only [List.length_drop, List.length_take]; rfl)) ?_; (with_reducible refine (dynamics_Times.calls k _ _ y207 t198 t191 (wrap64 (t192 + t200)) t193 t194 t195 t212 t215 _ ?side1 ?side2 A27.out).mono ?_); (case side1 => repeat (first | exact (Kd.R_reads' HO203.out).2.2 | (with_reducible refine Kd.C_alloc ?_ _) | (with_reducible refine Kd.C_drewN ?_ _) | (with_reducible refine Kd.C_drew ?_))); (case side2 => rw [show y207.length = y201.length from (Kd.R_reads' HO203.out).1.symm]; exact (Kd.R_reads' HO203.out).2.1); rintro e w47 ⟨v213, rfl, ho0, hb⟩; refine ⟨_, rfl, ?_⟩; have n0_ := Aside0.mk (Kd.R_below (by (with_reducible repeat (first | apply Kd.R_alloc | apply Kd.R_drewN | apply Kd.R_drew)); exact HO190.out) hb); have n1_ := Aside0.mk (Kd.R_below (by (with_reducible repeat (first | apply Kd.R_alloc | apply Kd.R_drewN | apply Kd.R_drew)); exact HO203.out) hb); have n2_ := Aside0.mk (Kd.R_elder' (by (with_reducible repeat (first | apply Kd.R_alloc | apply Kd.R_drewN | apply Kd.R_drew)); exact HO210.out) (Kd.R_base ho0) hb); have n3_ := Aside0.mk (Kd.R_lower (Kd.R_new' ho0 (Kd.R_lt (by (with_reducible repeat (first | apply Kd.R_alloc | apply Kd.R_drewN | apply Kd.R_drew)); exact HO210.out))) (below_size (by repeat (first | (with_reducible first | exact HB.out | apply below_alloc | apply pw_below_drewN | apply below_drew1 | refine below_set ?_ GE196.out | refine below_set ?_ GE199.out) | exact HB.out)))); have n4_ := Aside0.mk (blk_below (g := gb196) (o := .cells #[.string t191, .int .i64 t192, .int .i64 t193, .int .i64 t194, .int .i64 t195] 26 (0, 0)) (by (with_reducible repeat (first | refine blk_drewN ?_ _ | refine blk_drew ?_ | refine blk_alloc ?_ _)); exact BK196.out) hb); have n5_ := Aside0.mk (blk_below (g := gb199) (o := .cells #[.string t191, .int .i64 (wrap64 (t192 + t200)), .int .i64 t193, .int .i64 t194, .int .i64 t195] 26 (0, 0)) (by (with_reducible repeat (first | refine blk_drewN ?_ _ | refine blk_drew ?_ | refine blk_alloc ?_ _)); exact BK199.out) hb); have n6_ := Aside0.mk (below_step (by repeat (first | (with_reducible first | exact HB.out | apply below_alloc | apply pw_below_drewN | apply below_drew1 | refine below_set ?_ GE196.out | refine below_set ?_ GE199.out) | exact HB.out)) hb); clear HO190; clear HO203; clear HO210; clear BK196; clear BK199; clear HB; have HO190 := n0_; have HO203 := n1_; have HO210 := n2_; have HO214 := n3_; have BK196 := n4_; have BK199 := n5_; have HB := n6_; clear n0_ n1_ n2_ n3_ n4_ n5_ n6_; (try clear hb); (try clear hb2); (try clear hk); (try clear hi); (try clear ho0)))
          (try simp only [Act.put, List.setIfInBounds_toArray, List.set_cons_zero, List.set_cons_succ])
          go_cut [94] (fun v94 wc => ∃ (kq : Nat) (x94_27 : Bool), v94 = .bool x94_27 ∧ Aside0 (railplanlaw6_DynamicsLongerIsNotEarlier.j0 kq t208 t212 x94_27 = some r) ∧ Aside0 (kq ≤ k) ∧ Aside0 (Kd.R (Kd.int .i64) 3 wc w.heap.size (fun k_ => some k_ ≠ (v213 : Value).ownBlock) v209 t208) ∧ Aside0 (Kd.R (Kd.int .i64) 3 wc w.heap.size (fun k_ => some k_ ≠ (v209 : Value).ownBlock) v213 t212) ∧ Aside0 (wc.heap[gb196]? = some (.cells #[.string t191, .int .i64 t192, .int .i64 t193, .int .i64 t194, .int .i64 t195] 26 (0, 0))) ∧ Aside0 (wc.heap[gb199]? = some (.cells #[.string t191, .int .i64 (wrap64 (t192 + t200)), .int .i64 t193, .int .i64 t194, .int .i64 t195] 26 (0, 0))) ∧ Aside0 (Below w.heap.size w wc))
          case first =>
            have H := HC28.out
            clear HC28
            by_cases c48 : t211 = 0
            · rw [if_pos c48] at H
              have c48b0 : (t211 == 0) = true := beq_iff_eq.mpr c48
              have c48b1 : (t211 != 0) = false := bne_eq_false_iff_eq.mpr c48
              clear c48
              (first | rw [c48b0] | (simp only [i64_w, i32_w]; rw [c48b0]) | skip)
              by_cases c49 : t215 = 0
              · rw [if_pos c49] at H
                have c49b0 : (t215 == 0) = true := beq_iff_eq.mpr c49
                have c49b1 : (t215 != 0) = false := bne_eq_false_iff_eq.mpr c49
                clear c49
                by_cases c50 : (t208.length : Int) = (t212.length : Int)
                · rw [if_pos c50] at H
                  have c50b0 : ((t208.length : Int) == (t212.length : Int)) = true := beq_iff_eq.mpr c50
                  have c50b1 : ((t208.length : Int) != (t212.length : Int)) = false := bne_eq_false_iff_eq.mpr c50
                  have c50b2 : (t208.length == t212.length) = true := by first | simpa using c50 | (simp at c50 ⊢; omega)
                  clear c50
                  have H' := Aside0.mk H
                  clear H
                  obtain ⟨Ao51, co51, eo51⟩ := Kd.R_slice HO210.out
                  subst eo51
                  obtain ⟨Ao52, co52, eo52⟩ := Kd.R_slice HO214.out
                  subst eo52
                  go_wp2
                  go_meet
                  case rel => exact ⟨_, (decide ((t208.length : Int) < 3)), (by first | rfl | (simp; done) | (simp [*]; done)), H', ⟨by first | omega | exact Nat.le_refl _⟩, ⟨by (with_reducible repeat (first | apply Kd.R_alloc | apply Kd.R_drewN | apply Kd.R_drew)); exact Kd.R_mono HO210.out (fun _ hk => hk.2)⟩, ⟨by (with_reducible repeat (first | apply Kd.R_alloc | apply Kd.R_drewN | apply Kd.R_drew)); exact Kd.R_mono HO214.out (fun _ hk => hk.2)⟩, ⟨by (with_reducible repeat (first | refine blk_drewN ?_ _ | refine blk_drew ?_ | refine blk_alloc ?_ _)); exact BK196.out⟩, ⟨by (with_reducible repeat (first | refine blk_drewN ?_ _ | refine blk_drew ?_ | refine blk_alloc ?_ _)); exact BK199.out⟩, ⟨by repeat (first | (with_reducible first | exact HB.out | apply below_alloc | apply pw_below_drewN | apply below_drew1 | refine below_set ?_ GE196.out | refine below_set ?_ GE199.out) | exact HB.out)⟩⟩
                · rw [if_neg c50] at H
                  have c50b0 : ((t208.length : Int) == (t212.length : Int)) = false := beq_eq_false_iff_ne.mpr c50
                  have c50b1 : ((t208.length : Int) != (t212.length : Int)) = true := bne_iff_ne.mpr c50
                  have c50b2 : (t208.length == t212.length) = false := by first | simpa using c50 | (simp at c50 ⊢; omega)
                  have H' := Aside0.mk H
                  clear H
                  obtain ⟨Ao53, co53, eo53⟩ := Kd.R_slice HO210.out
                  subst eo53
                  obtain ⟨Ao54, co54, eo54⟩ := Kd.R_slice HO214.out
                  subst eo54
                  go_wp2
                  go_meet
                  case rel => exact ⟨_, (true), (by first | rfl | (simp; done) | (simp [*]; done)), H', ⟨by first | omega | exact Nat.le_refl _⟩, ⟨by (with_reducible repeat (first | apply Kd.R_alloc | apply Kd.R_drewN | apply Kd.R_drew)); exact Kd.R_mono HO210.out (fun _ hk => hk.2)⟩, ⟨by (with_reducible repeat (first | apply Kd.R_alloc | apply Kd.R_drewN | apply Kd.R_drew)); exact Kd.R_mono HO214.out (fun _ hk => hk.2)⟩, ⟨by (with_reducible repeat (first | refine blk_drewN ?_ _ | refine blk_drew ?_ | refine blk_alloc ?_ _)); exact BK196.out⟩, ⟨by (with_reducible repeat (first | refine blk_drewN ?_ _ | refine blk_drew ?_ | refine blk_alloc ?_ _)); exact BK199.out⟩, ⟨by repeat (first | (with_reducible first | exact HB.out | apply below_alloc | apply pw_below_drewN | apply below_drew1 | refine below_set ?_ GE196.out | refine below_set ?_ GE199.out) | exact HB.out)⟩⟩
              · rw [if_neg c49] at H
                have c49b0 : (t215 == 0) = false := beq_eq_false_iff_ne.mpr c49
                have c49b1 : (t215 != 0) = true := bne_iff_ne.mpr c49
                have H' := Aside0.mk H
                clear H
                go_wp2
                go_meet
                case rel => exact ⟨_, (true), (by first | rfl | (simp; done) | (simp [*]; done)), H', ⟨by first | omega | exact Nat.le_refl _⟩, ⟨by (with_reducible repeat (first | apply Kd.R_alloc | apply Kd.R_drewN | apply Kd.R_drew)); exact Kd.R_mono HO210.out (fun _ hk => hk.2)⟩, ⟨by (with_reducible repeat (first | apply Kd.R_alloc | apply Kd.R_drewN | apply Kd.R_drew)); exact Kd.R_mono HO214.out (fun _ hk => hk.2)⟩, ⟨by (with_reducible repeat (first | refine blk_drewN ?_ _ | refine blk_drew ?_ | refine blk_alloc ?_ _)); exact BK196.out⟩, ⟨by (with_reducible repeat (first | refine blk_drewN ?_ _ | refine blk_drew ?_ | refine blk_alloc ?_ _)); exact BK199.out⟩, ⟨by repeat (first | (with_reducible first | exact HB.out | apply below_alloc | apply pw_below_drewN | apply below_drew1 | refine below_set ?_ GE196.out | refine below_set ?_ GE199.out) | exact HB.out)⟩⟩
            · rw [if_neg c48] at H
              have c48b0 : (t211 == 0) = false := beq_eq_false_iff_ne.mpr c48
              have c48b1 : (t211 != 0) = true := bne_iff_ne.mpr c48
              (first | rw [c48b0] | (simp only [i64_w, i32_w]; rw [c48b0]) | skip)
              have H' := Aside0.mk H
              clear H
              go_wp2
              go_meet
              case rel => exact ⟨_, (true), (by first | rfl | (simp; done) | (simp [*]; done)), H', ⟨by first | omega | exact Nat.le_refl _⟩, ⟨by (with_reducible repeat (first | apply Kd.R_alloc | apply Kd.R_drewN | apply Kd.R_drew)); exact Kd.R_mono HO210.out (fun _ hk => hk.2)⟩, ⟨by (with_reducible repeat (first | apply Kd.R_alloc | apply Kd.R_drewN | apply Kd.R_drew)); exact Kd.R_mono HO214.out (fun _ hk => hk.2)⟩, ⟨by (with_reducible repeat (first | refine blk_drewN ?_ _ | refine blk_drew ?_ | refine blk_alloc ?_ _)); exact BK196.out⟩, ⟨by (with_reducible repeat (first | refine blk_drewN ?_ _ | refine blk_drew ?_ | refine blk_alloc ?_ _)); exact BK199.out⟩, ⟨by repeat (first | (with_reducible first | exact HB.out | apply below_alloc | apply pw_below_drewN | apply below_drew1 | refine below_set ?_ GE196.out | refine below_set ?_ GE199.out) | exact HB.out)⟩⟩
          case rest =>
            clear HC28
            try clear c1
            try clear c2
            try clear p2
            try clear q2
            try clear hx2
            try clear c3
            try clear c4
            try clear c5
            try clear c6
            try clear p6
            try clear c9
            try clear c9b0
            try clear c9b1
            try clear c13
            try clear c14
            try clear c15
            try clear c16
            try clear c19
            try clear p20
            try clear q20
            try clear hx20
            try clear c21
            try clear c21b0
            try clear c22
            try clear c22b0
            try clear c25
            try clear p25
            try clear q25
            try clear hx25
            try clear hf25
            try clear c35
            try clear c43
            try clear c48
            try clear c48b0
            try clear c48b1
            try clear c49
            try clear c49b0
            try clear c49b1
            try clear c50
            try clear c50b0
            try clear c50b1
            try clear c50b2
            try clear hcz14_0
            try clear hcz14_1
            try clear hcz14_2
            try clear hcz14_3
            try clear hcz14_4
            try clear hcz32_0
            try clear hcz32_1
            try clear hcz32_2
            try clear hcz32_3
            try clear hcz32_4
            try clear hcz36_0
            try clear hcz36_1
            try clear hcz36_2
            try clear hcz36_3
            try clear hcz36_4
            try clear hcz44_0
            try clear hcz44_1
            try clear hcz44_2
            try clear hcz44_3
            try clear hcz44_4
            try clear hcz46_0
            try clear hcz46_1
            try clear hcz46_2
            try clear hcz46_3
            try clear hcz46_4
            try clear hfz14_0
            try clear hfz14_1
            try clear hfz14_2
            try clear hfz14_3
            try clear hfz14_4
            try clear hfz32_0
            try clear hfz32_1
            try clear hfz32_2
            try clear hfz32_3
            try clear hfz32_4
            try clear hfz36_0
            try clear hfz36_1
            try clear hfz36_2
            try clear hfz36_3
            try clear hfz36_4
            try clear hfz44_0
            try clear hfz44_1
            try clear hfz44_2
            try clear hfz44_3
            try clear hfz44_4
            try clear hfz46_0
            try clear hfz46_1
            try clear hfz46_2
            try clear hfz46_3
            try clear hfz46_4
            try clear hx205_0
            try clear hx205_1
            try clear hx25_0
            try clear hx25_1
            try clear p205
            try clear p25
            try clear q205
            try clear q25
            obtain ⟨kq, x94_27, rfl, HA, HJ27, HO_18, HO_20, BK196, BK199, HB⟩ := hcut
            cases kq with
            | zero => exact absurd HA.out (by simp [railplanlaw6_DynamicsLongerIsNotEarlier.j0])
            | succ kj27 =>
              have H := HA.out
              clear HA
              simp only [railplanlaw6_DynamicsLongerIsNotEarlier.j0] at H
              by_cases c55 : x94_27 = true
              · subst c55
                have H1 : (some false) = some r := by rw [if_pos rfl] at H; exact H
                clear H
                have H := H1
                clear H1
                obtain rfl := Option.some.inj H
                go_wp2
                go_ret
                exact ⟨by first | rfl | (simp [errW_none, errW_some] <;> rfl) | (simp only [← hji24]; first | rfl | (simp [errW_none, errW_some] <;> rfl)) | (simp [*, errW_none, errW_some] <;> rfl), by repeat (first | (with_reducible first | exact HB.out | apply below_alloc | apply pw_below_drewN | apply below_drew1 | refine below_set ?_ GE196.out | refine below_set ?_ GE199.out) | exact HB.out)⟩
              · replace c55 := Bool.eq_false_iff.mpr c55
                subst c55
                have H1 : (railplanlaw6_DynamicsLongerIsNotEarlier.l0 kj27 t208 t212 (t208.length : Int) 0) = some r := by rw [if_neg (show ¬ (false = true) by decide)] at H; exact H
                clear H
                have H := H1
                clear H1
                have H' := Aside0.mk H
                clear H
                obtain ⟨Ao56, co56, eo56⟩ := Kd.R_slice HO_18.out
                subst eo56
                go_wp2
                go_loopg [97] kj27 (fun kq v97 w' => ∃ (x97_2 : Int), v97 = .int .i64 x97_2 ∧ Aside0 (railplanlaw6_DynamicsLongerIsNotEarlier.l0 kq t208 t212 (t208.length : Int) x97_2 = some r) ∧ Aside0 (kq ≤ kj27) ∧ Aside0 (Kd.R (Kd.int .i64) 3 w' w.heap.size (fun k_ => some k_ ≠ (v213 : Value).ownBlock) (.slice Ao56 t208.length co56) t208) ∧ Aside0 (Kd.R (Kd.int .i64) 3 w' w.heap.size (fun k_ => some k_ ≠ ((.slice Ao56 t208.length co56) : Value).ownBlock) v213 t212) ∧ Aside0 (w'.heap[gb196]? = some (.cells #[.string t191, .int .i64 t192, .int .i64 t193, .int .i64 t194, .int .i64 t195] 26 (0, 0))) ∧ Aside0 (w'.heap[gb199]? = some (.cells #[.string t191, .int .i64 (wrap64 (t192 + t200)), .int .i64 t193, .int .i64 t194, .int .i64 t195] 26 (0, 0))) ∧ Aside0 (Below w.heap.size w w'))
                case atStart => exact ⟨(0), (by first | rfl | (simp; done) | (simp [*]; done)), H', ⟨Nat.le_refl _⟩, ⟨by (with_reducible repeat (first | apply Kd.R_alloc | apply Kd.R_drewN | apply Kd.R_drew)); exact HO_18.out⟩, ⟨by (with_reducible repeat (first | apply Kd.R_alloc | apply Kd.R_drewN | apply Kd.R_drew)); exact HO_20.out⟩, ⟨by (with_reducible repeat (first | refine blk_drewN ?_ _ | refine blk_drew ?_ | refine blk_alloc ?_ _)); exact BK196.out⟩, ⟨by (with_reducible repeat (first | refine blk_drewN ?_ _ | refine blk_drew ?_ | refine blk_alloc ?_ _)); exact BK199.out⟩, ⟨by repeat (first | (with_reducible first | exact HB.out | apply below_alloc | apply pw_below_drewN | apply below_drew1 | refine below_set ?_ GE196.out | refine below_set ?_ GE199.out) | exact HB.out)⟩⟩
                case round =>
                  clear H'
                  try clear c1
                  try clear c2
                  try clear p2
                  try clear q2
                  try clear hx2
                  try clear c3
                  try clear c4
                  try clear c5
                  try clear c6
                  try clear p6
                  try clear c9
                  try clear c9b0
                  try clear c9b1
                  try clear c13
                  try clear c14
                  try clear c15
                  try clear c16
                  try clear c19
                  try clear p20
                  try clear q20
                  try clear hx20
                  try clear c21
                  try clear c21b0
                  try clear c22
                  try clear c22b0
                  try clear c25
                  try clear p25
                  try clear q25
                  try clear hx25
                  try clear hf25
                  try clear c35
                  try clear c43
                  try clear c48
                  try clear c48b0
                  try clear c48b1
                  try clear c49
                  try clear c49b0
                  try clear c49b1
                  try clear c50
                  try clear c50b0
                  try clear c50b1
                  try clear c50b2
                  try clear c55
                  try clear hcz14_0
                  try clear hcz14_1
                  try clear hcz14_2
                  try clear hcz14_3
                  try clear hcz14_4
                  try clear hcz32_0
                  try clear hcz32_1
                  try clear hcz32_2
                  try clear hcz32_3
                  try clear hcz32_4
                  try clear hcz36_0
                  try clear hcz36_1
                  try clear hcz36_2
                  try clear hcz36_3
                  try clear hcz36_4
                  try clear hcz44_0
                  try clear hcz44_1
                  try clear hcz44_2
                  try clear hcz44_3
                  try clear hcz44_4
                  try clear hcz46_0
                  try clear hcz46_1
                  try clear hcz46_2
                  try clear hcz46_3
                  try clear hcz46_4
                  try clear hfz14_0
                  try clear hfz14_1
                  try clear hfz14_2
                  try clear hfz14_3
                  try clear hfz14_4
                  try clear hfz32_0
                  try clear hfz32_1
                  try clear hfz32_2
                  try clear hfz32_3
                  try clear hfz32_4
                  try clear hfz36_0
                  try clear hfz36_1
                  try clear hfz36_2
                  try clear hfz36_3
                  try clear hfz36_4
                  try clear hfz44_0
                  try clear hfz44_1
                  try clear hfz44_2
                  try clear hfz44_3
                  try clear hfz44_4
                  try clear hfz46_0
                  try clear hfz46_1
                  try clear hfz46_2
                  try clear hfz46_3
                  try clear hfz46_4
                  try clear hx205_0
                  try clear hx205_1
                  try clear hx25_0
                  try clear hx25_1
                  try clear p2
                  try clear p20
                  try clear p205
                  try clear p25
                  try clear p6
                  try clear q2
                  try clear q20
                  try clear q205
                  try clear q25
                  obtain ⟨x97_2, rfl, HA, HK2, HO_18, HO_20, BK196, BK199, HB⟩ := hrel
                  cases gk with
                  | zero => exact absurd HA.out (by simp [railplanlaw6_DynamicsLongerIsNotEarlier.l0])
                  | succ k2 =>
                    have H := HA.out
                    clear HA
                    simp only [railplanlaw6_DynamicsLongerIsNotEarlier.l0] at H
                    by_cases c57 : x97_2 < (t208.length : Int)
                    · rw [if_pos c57] at H
                      have c57b0 : decide (x97_2 < (t208.length : Int)) = true := decide_eq_true c57
                      clear c57
                      by_cases c58 : 0 ≤ x97_2
                      · rw [if_pos c58] at H
                        have c58b0 : decide (0 ≤ x97_2) = true := decide_eq_true c58
                        clear c58
                        by_cases c59 : x97_2 < (t212.length : Int)
                        · rw [if_pos c59] at H
                          have c59b0 : decide (x97_2 < (t212.length : Int)) = true := decide_eq_true c59
                          clear c59
                          by_cases c60 : x97_2 < (t208.length : Int)
                          · rw [if_pos c60] at H
                            have c60b0 : decide (x97_2 < (t208.length : Int)) = true := decide_eq_true c60
                            clear c60
                            by_cases c61 : (rd t212 x97_2) < (rd t208 x97_2)
                            · rw [if_pos c61] at H
                              have c61b0 : decide ((rd t212 x97_2) < (rd t208 x97_2)) = true := decide_eq_true c61
                              clear c61
                              obtain rfl := Option.some.inj H
                              try go_wp2
                              have n0_ := Aside0.mk (Kd.R_drew HO_18.out)
                              have n1_ := Aside0.mk (Kd.R_drew HO_20.out)
                              have n2_ := Aside0.mk (blk_drew BK196.out)
                              have n3_ := Aside0.mk (blk_drew BK199.out)
                              have n4_ := Aside0.mk (below_drew1 HB.out)
                              clear HO_18
                              clear HO_20
                              clear BK196
                              clear BK199
                              clear HB
                              have HO_18 := n0_
                              have HO_20 := n1_
                              have BK196 := n2_
                              have BK199 := n3_
                              have HB := n4_
                              clear n0_ n1_ n2_ n3_ n4_
                              obtain ⟨Ao63, co63, eo63⟩ := Kd.R_slice HO_20.out
                              (first | subst eo63 | (injection eo63 with f1_ f2_ f3_; have f4_ := f1_.symm; have f5_ := f3_.symm; clear f1_ f2_ f3_; subst f4_; subst f5_))
                              have p216 : 0 ≤ (x97_2 : Int) := of_decide_eq_true (by first | (with_reducible assumption) | assumption)
                              have q216 : x97_2 < (t212.length : Int) := of_decide_eq_true (by first | (with_reducible assumption) | assumption)
                              obtain ⟨ad216, e216, hx216_0⟩ := Kd.at_int (Kd.R_reads' HO_20.out).2.2 x97_2 p216 q216
                              cases e216
                              replace p216 := eq_true p216
                              replace q216 := eq_true q216
                              have p217 : 0 ≤ (x97_2 : Int) := of_decide_eq_true (by first | (with_reducible assumption) | assumption)
                              have q217 : x97_2 < (t208.length : Int) := of_decide_eq_true (by first | (with_reducible assumption) | assumption)
                              obtain ⟨ad217, e217, hx217_0⟩ := Kd.at_int (Kd.R_reads' HO_18.out).2.2 x97_2 p217 q217
                              cases e217
                              replace p217 := eq_true p217
                              replace q217 := eq_true q217
                              refine start_ (n := 9) (S := fun w' => w'.cell? (ad216.add (x97_2).toNat) = some (.int .i64 (rd t212 x97_2)) ∧ w'.cell? (ad217.add (x97_2).toNat) = some (.int .i64 (rd t208 x97_2))) (ds := []) #[false, false, false, false, false, false, false, false, false] (by kernel_rfl) rfl rfl ⟨hx216_0, hx217_0⟩ (fun hHeld => ?_); refine with_tabW railplanlaw6_DynamicsLongerIsNotEarlier.tab17 railplanlaw6_DynamicsLongerIsNotEarlier.bits17 (fun HT_ HW_ => ?_)
                              generalize wr.drew = w62 at HO_18 HO_20 BK196 BK199 HB hx216_0 hx217_0 hHeld ⊢
                              refine pure_ (i := 0) (N := some 100) (v := ?_) (a' := ?_) #[true, false, false, false, false, false, false, false, false] rfl rfl (any_of HT_.out (by kernel_rfl)) (fun _ _ _ h => h) (Or.inl ⟨by rfl, ?_⟩) ?_ ?_
                              rotate_left
                              · intro w'
                                go_simp
                                with_reducible rfl
                              rotate_left
                              · simp only [Act.put, List.setIfInBounds_toArray, List.set_cons_zero, List.set_cons_succ, i64_w, i32_w]
                                rfl
                              refine pure_ (i := 1) (N := some 101) (v := ?_) (a' := ?_) #[true, true, false, false, false, false, false, false, false] rfl rfl (any_of HT_.out (by kernel_rfl)) (fun _ _ _ h => h) (Or.inl ⟨by rfl, ?_⟩) ?_ ?_
                              rotate_left
                              · intro w'
                                go_simp
                                with_reducible rfl
                              rotate_left
                              · simp only [Act.put, List.setIfInBounds_toArray, List.set_cons_zero, List.set_cons_succ, i64_w, i32_w]
                                rfl
                              refine pure_ (i := 2) (N := some 102) (v := ?_) (a' := ?_) #[true, true, true, false, false, false, false, false, false] rfl rfl (any_of HT_.out (by kernel_rfl)) (fun _ _ _ h => h) (Or.inl ⟨by rfl, ?_⟩) ?_ ?_
                              rotate_left
                              · intro w'
                                go_simp
                                with_reducible rfl
                              rotate_left
                              · simp only [Act.put, List.setIfInBounds_toArray, List.set_cons_zero, List.set_cons_succ, i64_w, i32_w]
                                rfl
                              refine pure_ (i := 4) (N := some 104) (v := ?_) (a' := ?_) #[true, true, true, false, true, false, false, false, false] rfl rfl (any_of HT_.out (by kernel_rfl)) (fun _ _ _ h => h) (Or.inl ⟨by rfl, ?_⟩) ?_ ?_
                              rotate_left
                              · intro w'
                                go_simp
                                with_reducible rfl
                              rotate_left
                              · simp only [Act.put, List.setIfInBounds_toArray, List.set_cons_zero, List.set_cons_succ, i64_w, i32_w]
                                rfl
                              refine pure_ (i := 5) (N := some 105) (v := ?_) (a' := ?_) #[true, true, true, false, true, true, false, false, false] rfl rfl (any_of HT_.out (by kernel_rfl)) (fun _ _ _ h => h) (Or.inl ⟨by rfl, ?_⟩) ?_ ?_
                              rotate_left
                              · intro w'
                                go_simp
                                with_reducible rfl
                              rotate_left
                              · simp only [Act.put, List.setIfInBounds_toArray, List.set_cons_zero, List.set_cons_succ, i64_w, i32_w]
                                rfl
                              refine pure_ (i := 6) (N := some 106) (v := ?_) (a' := ?_) #[true, true, true, false, true, true, true, false, false] rfl rfl (any_of HT_.out (by kernel_rfl)) (fun _ _ _ h => h) (Or.inl ⟨by rfl, ?_⟩) ?_ ?_
                              rotate_left
                              · intro w'
                                go_simp
                                with_reducible rfl
                              rotate_left
                              · simp only [Act.put, List.setIfInBounds_toArray, List.set_cons_zero, List.set_cons_succ, i64_w, i32_w]
                                rfl
                              refine take_ (i := 3) (N := some 103) (v := ?_) (a' := ?_) #[true, true, true, true, true, true, true, false, false] rfl rfl (take_ofW HT_.out HW_.out (by kernel_rfl)) (fun _ _ _ h => h) (Or.inl ⟨by rfl, ?_⟩) hHeld ?_ ?_
                              rotate_left
                              · rintro w' ⟨s0, s1⟩
                                go_simp
                                with_reducible rfl
                              rotate_left
                              · simp only [Act.put, List.setIfInBounds_toArray, List.set_cons_zero, List.set_cons_succ, i64_w, i32_w]
                                rfl
                              refine take_ (i := 7) (N := some 107) (v := ?_) (a' := ?_) #[true, true, true, true, true, true, true, true, false] rfl rfl (take_ofW HT_.out HW_.out (by kernel_rfl)) (fun _ _ _ h => h) (Or.inl ⟨by rfl, ?_⟩) hHeld ?_ ?_
                              rotate_left
                              · rintro w' ⟨s0, s1⟩
                                go_simp
                                with_reducible rfl
                              rotate_left
                              · simp only [Act.put, List.setIfInBounds_toArray, List.set_cons_zero, List.set_cons_succ, i64_w, i32_w]
                                rfl
                              refine pure_ (i := 8) (N := some 108) (v := ?_) (a' := ?_) #[true, true, true, true, true, true, true, true, true] rfl rfl (any_of HT_.out (by kernel_rfl)) (fun _ _ _ h => h) (Or.inl ⟨by rfl, ?_⟩) ?_ ?_
                              rotate_left
                              · intro w'
                                go_simp
                                with_reducible rfl
                              rotate_left
                              · simp only [Act.put, List.setIfInBounds_toArray, List.set_cons_zero, List.set_cons_succ, i64_w, i32_w]
                                rfl
                              refine done_ (done_of HT_.out (by kernel_rfl)) ?_
                              try go_wp2
                              go_ret
                              exact ⟨by first | rfl | (simp [errW_none, errW_some] <;> rfl) | (simp only [← hji24]; first | rfl | (simp [errW_none, errW_some] <;> rfl)) | (simp [*, errW_none, errW_some] <;> rfl), by repeat (first | (with_reducible first | exact HB.out | apply below_alloc | apply pw_below_drewN | apply below_drew1 | refine below_set ?_ GE196.out | refine below_set ?_ GE199.out) | exact HB.out)⟩
                            · rw [if_neg c61] at H
                              have c61b0 : decide ((rd t212 x97_2) < (rd t208 x97_2)) = false := decide_eq_false c61
                              clear c61
                              have H' := Aside0.mk H
                              clear H
                              try go_wp2
                              have n0_ := Aside0.mk (Kd.R_drew HO_18.out)
                              have n1_ := Aside0.mk (Kd.R_drew HO_20.out)
                              have n2_ := Aside0.mk (blk_drew BK196.out)
                              have n3_ := Aside0.mk (blk_drew BK199.out)
                              have n4_ := Aside0.mk (below_drew1 HB.out)
                              clear HO_18
                              clear HO_20
                              clear BK196
                              clear BK199
                              clear HB
                              have HO_18 := n0_
                              have HO_20 := n1_
                              have BK196 := n2_
                              have BK199 := n3_
                              have HB := n4_
                              clear n0_ n1_ n2_ n3_ n4_
                              obtain ⟨Ao65, co65, eo65⟩ := Kd.R_slice HO_20.out
                              (first | subst eo65 | (injection eo65 with f1_ f2_ f3_; have f4_ := f1_.symm; have f5_ := f3_.symm; clear f1_ f2_ f3_; subst f4_; subst f5_))
                              have p216 : 0 ≤ (x97_2 : Int) := of_decide_eq_true (by first | (with_reducible assumption) | assumption)
                              have q216 : x97_2 < (t212.length : Int) := of_decide_eq_true (by first | (with_reducible assumption) | assumption)
                              obtain ⟨ad216, e216, hx216_0⟩ := Kd.at_int (Kd.R_reads' HO_20.out).2.2 x97_2 p216 q216
                              cases e216
                              replace p216 := eq_true p216
                              replace q216 := eq_true q216
                              have p217 : 0 ≤ (x97_2 : Int) := of_decide_eq_true (by first | (with_reducible assumption) | assumption)
                              have q217 : x97_2 < (t208.length : Int) := of_decide_eq_true (by first | (with_reducible assumption) | assumption)
                              obtain ⟨ad217, e217, hx217_0⟩ := Kd.at_int (Kd.R_reads' HO_18.out).2.2 x97_2 p217 q217
                              cases e217
                              replace p217 := eq_true p217
                              replace q217 := eq_true q217
                              refine start_ (n := 9) (S := fun w' => w'.cell? (ad216.add (x97_2).toNat) = some (.int .i64 (rd t212 x97_2)) ∧ w'.cell? (ad217.add (x97_2).toNat) = some (.int .i64 (rd t208 x97_2))) (ds := []) #[false, false, false, false, false, false, false, false, false] (by kernel_rfl) rfl rfl ⟨hx216_0, hx217_0⟩ (fun hHeld => ?_); refine with_tabW railplanlaw6_DynamicsLongerIsNotEarlier.tab17 railplanlaw6_DynamicsLongerIsNotEarlier.bits17 (fun HT_ HW_ => ?_)
                              generalize wr.drew = w64 at HO_18 HO_20 BK196 BK199 HB hx216_0 hx217_0 hHeld ⊢
                              refine pure_ (i := 0) (N := some 100) (v := ?_) (a' := ?_) #[true, false, false, false, false, false, false, false, false] rfl rfl (any_of HT_.out (by kernel_rfl)) (fun _ _ _ h => h) (Or.inl ⟨by rfl, ?_⟩) ?_ ?_
                              rotate_left
                              · intro w'
                                go_simp
                                with_reducible rfl
                              rotate_left
                              · simp only [Act.put, List.setIfInBounds_toArray, List.set_cons_zero, List.set_cons_succ, i64_w, i32_w]
                                rfl
                              refine pure_ (i := 1) (N := some 101) (v := ?_) (a' := ?_) #[true, true, false, false, false, false, false, false, false] rfl rfl (any_of HT_.out (by kernel_rfl)) (fun _ _ _ h => h) (Or.inl ⟨by rfl, ?_⟩) ?_ ?_
                              rotate_left
                              · intro w'
                                go_simp
                                with_reducible rfl
                              rotate_left
                              · simp only [Act.put, List.setIfInBounds_toArray, List.set_cons_zero, List.set_cons_succ, i64_w, i32_w]
                                rfl
                              refine pure_ (i := 2) (N := some 102) (v := ?_) (a' := ?_) #[true, true, true, false, false, false, false, false, false] rfl rfl (any_of HT_.out (by kernel_rfl)) (fun _ _ _ h => h) (Or.inl ⟨by rfl, ?_⟩) ?_ ?_
                              rotate_left
                              · intro w'
                                go_simp
                                with_reducible rfl
                              rotate_left
                              · simp only [Act.put, List.setIfInBounds_toArray, List.set_cons_zero, List.set_cons_succ, i64_w, i32_w]
                                rfl
                              refine pure_ (i := 4) (N := some 104) (v := ?_) (a' := ?_) #[true, true, true, false, true, false, false, false, false] rfl rfl (any_of HT_.out (by kernel_rfl)) (fun _ _ _ h => h) (Or.inl ⟨by rfl, ?_⟩) ?_ ?_
                              rotate_left
                              · intro w'
                                go_simp
                                with_reducible rfl
                              rotate_left
                              · simp only [Act.put, List.setIfInBounds_toArray, List.set_cons_zero, List.set_cons_succ, i64_w, i32_w]
                                rfl
                              refine pure_ (i := 5) (N := some 105) (v := ?_) (a' := ?_) #[true, true, true, false, true, true, false, false, false] rfl rfl (any_of HT_.out (by kernel_rfl)) (fun _ _ _ h => h) (Or.inl ⟨by rfl, ?_⟩) ?_ ?_
                              rotate_left
                              · intro w'
                                go_simp
                                with_reducible rfl
                              rotate_left
                              · simp only [Act.put, List.setIfInBounds_toArray, List.set_cons_zero, List.set_cons_succ, i64_w, i32_w]
                                rfl
                              refine pure_ (i := 6) (N := some 106) (v := ?_) (a' := ?_) #[true, true, true, false, true, true, true, false, false] rfl rfl (any_of HT_.out (by kernel_rfl)) (fun _ _ _ h => h) (Or.inl ⟨by rfl, ?_⟩) ?_ ?_
                              rotate_left
                              · intro w'
                                go_simp
                                with_reducible rfl
                              rotate_left
                              · simp only [Act.put, List.setIfInBounds_toArray, List.set_cons_zero, List.set_cons_succ, i64_w, i32_w]
                                rfl
                              refine take_ (i := 3) (N := some 103) (v := ?_) (a' := ?_) #[true, true, true, true, true, true, true, false, false] rfl rfl (take_ofW HT_.out HW_.out (by kernel_rfl)) (fun _ _ _ h => h) (Or.inl ⟨by rfl, ?_⟩) hHeld ?_ ?_
                              rotate_left
                              · rintro w' ⟨s0, s1⟩
                                go_simp
                                with_reducible rfl
                              rotate_left
                              · simp only [Act.put, List.setIfInBounds_toArray, List.set_cons_zero, List.set_cons_succ, i64_w, i32_w]
                                rfl
                              refine take_ (i := 7) (N := some 107) (v := ?_) (a' := ?_) #[true, true, true, true, true, true, true, true, false] rfl rfl (take_ofW HT_.out HW_.out (by kernel_rfl)) (fun _ _ _ h => h) (Or.inl ⟨by rfl, ?_⟩) hHeld ?_ ?_
                              rotate_left
                              · rintro w' ⟨s0, s1⟩
                                go_simp
                                with_reducible rfl
                              rotate_left
                              · simp only [Act.put, List.setIfInBounds_toArray, List.set_cons_zero, List.set_cons_succ, i64_w, i32_w]
                                rfl
                              refine pure_ (i := 8) (N := some 108) (v := ?_) (a' := ?_) #[true, true, true, true, true, true, true, true, true] rfl rfl (any_of HT_.out (by kernel_rfl)) (fun _ _ _ h => h) (Or.inl ⟨by rfl, ?_⟩) ?_ ?_
                              rotate_left
                              · intro w'
                                go_simp
                                with_reducible rfl
                              rotate_left
                              · simp only [Act.put, List.setIfInBounds_toArray, List.set_cons_zero, List.set_cons_succ, i64_w, i32_w]
                                rfl
                              refine done_ (done_of HT_.out (by kernel_rfl)) ?_
                              try go_wp2
                              go_roundg k2
                              case measure => have := HJ27.out; have := HK2.out; omega
                              case rel => exact ⟨(wrap64 (x97_2 + 1)), (by first | rfl | (simp; done) | (simp [*]; done)), H', ⟨by have := HJ27.out; have := HK2.out; omega⟩, ⟨by (with_reducible repeat (first | apply Kd.R_alloc | apply Kd.R_drewN | apply Kd.R_drew)); exact HO_18.out⟩, ⟨by (with_reducible repeat (first | apply Kd.R_alloc | apply Kd.R_drewN | apply Kd.R_drew)); exact HO_20.out⟩, ⟨by (with_reducible repeat (first | refine blk_drewN ?_ _ | refine blk_drew ?_ | refine blk_alloc ?_ _)); exact BK196.out⟩, ⟨by (with_reducible repeat (first | refine blk_drewN ?_ _ | refine blk_drew ?_ | refine blk_alloc ?_ _)); exact BK199.out⟩, ⟨by repeat (first | (with_reducible first | exact HB.out | apply below_alloc | apply pw_below_drewN | apply below_drew1 | refine below_set ?_ GE196.out | refine below_set ?_ GE199.out) | exact HB.out)⟩⟩
                          · rw [if_neg c60] at H
                            exact absurd H (by simp)
                        · rw [if_neg c59] at H
                          exact absurd H (by simp)
                      · rw [if_neg c58] at H
                        exact absurd H (by simp)
                    · rw [if_neg c57] at H
                      have c57b0 : decide (x97_2 < (t208.length : Int)) = false := decide_eq_false c57
                      clear c57
                      by_cases c66 : 1 < (t208.length : Int)
                      · rw [if_pos c66] at H
                        have c66b0 : decide (1 < (t208.length : Int)) = true := decide_eq_true c66
                        have c66b1 : decide (1 < t208.length) = true := decide_eq_true (by omega)
                        clear c66
                        obtain rfl := Option.some.inj H
                        have p218 : 0 ≤ (1 : Int) := (by omega)
                        have q218 : 1 < (t208.length : Int) := of_decide_eq_true (by first | (with_reducible assumption) | assumption)
                        obtain ⟨ad218, e218, hx218_0⟩ := Kd.at_int (Kd.R_reads' HO_18.out).2.2 1 p218 q218
                        cases e218
                        (try simp only [show (1 : Int).toNat = 1 from rfl, Nat.reduceMul, Nat.reduceEqDiff, Go.Addr.add, ↓reduceIte] at hx218_0)
                        have qi218 : (1 < t208.length) = True := eq_true (by omega)
                        (try rw [show ((1 : Int)).toNat = 1 from rfl] at hx218_0)
                        replace p218 := eq_true p218
                        replace q218 := eq_true q218
                        go_wp2
                        go_ret
                        exact ⟨by first | rfl | (simp [errW_none, errW_some] <;> rfl) | (simp only [← hji24]; first | rfl | (simp [errW_none, errW_some] <;> rfl)) | (simp [*, errW_none, errW_some] <;> rfl), by repeat (first | (with_reducible first | exact HB.out | apply below_alloc | apply pw_below_drewN | apply below_drew1 | refine below_set ?_ GE196.out | refine below_set ?_ GE199.out) | exact HB.out)⟩
                      · rw [if_neg c66] at H
                        exact absurd H (by simp)
        · rw [if_neg c22] at H
          exact absurd H (by simp)
      · rw [if_neg c21] at H
        exact absurd H (by simp)
    · rw [if_neg c19] at H
      exact absurd H (by simp)

/-- THE ONE PURE STATEMENT of railplanlaw6_DynamicsLongerIsNotEarlier: yours. -/
def railplanlaw6_DynamicsLongerIsNotEarlier.Pure : Prop := ∀ (l0 : List Int) (l1 : List Int) (a2 : Int) (a3 : Int) (a4 : Int) (a5 : Int), l0.length ≤ maxLen → l0.length * 8 ≤ 140737488351232 → (∀ x ∈ l0, (Lit.int .i64 x).wf = true) → l1.length ≤ maxLen → l1.length * 8 ≤ 140737488351232 → (∀ x ∈ l1, (Lit.int .i64 x).wf = true) → (Lit.int .i64 a2).wf = true → (Lit.int .i64 a3).wf = true → (Lit.int .i64 a4).wf = true → (Lit.int .i64 a5).wf = true → ∃ k, railplanlaw6_DynamicsLongerIsNotEarlier.f k l0 l1 a2 a3 a4 a5 = some true
theorem railplanlaw6_DynamicsLongerIsNotEarlier.walk (P : railplanlaw6_DynamicsLongerIsNotEarlier.Pure) (a0 : Option Addr) (len0 cap0 : Nat) (z0 : List Int) (a1 : Option Addr) (len1 cap1 : Nat) (z1 : List Int) (a2 : Int) (a3 : Int) (a4 : Int) (a5 : Int) (w : World) (w0 : (a0 = none ∧ len0 = 0 ∧ cap0 = 0 ∧ z0 = []) ∨ ∃ x, a0 = some x ∧ len0 ≤ cap0 ∧ cap0 ≤ maxLen ∧ z0.length = cap0 ∧ (∀ i, i < z0.length → w.cell? (x.add i) = some (.int .i64 (z0.getD i 0))) ∧ ∀ n ∈ z0, (Lit.int .i64 n).wf = true) (y0 : len0 * 8 ≤ 140737488351232) (w1 : (a1 = none ∧ len1 = 0 ∧ cap1 = 0 ∧ z1 = []) ∨ ∃ x, a1 = some x ∧ len1 ≤ cap1 ∧ cap1 ≤ maxLen ∧ z1.length = cap1 ∧ (∀ i, i < z1.length → w.cell? (x.add i) = some (.int .i64 (z1.getD i 0))) ∧ ∀ n ∈ z1, (Lit.int .i64 n).wf = true) (y1 : len1 * 8 ≤ 140737488351232) (w2 : (Lit.int .i64 a2).wf = true) (w3 : (Lit.int .i64 a3).wf = true) (w4 : (Lit.int .i64 a4).wf = true) (w5 : (Lit.int .i64 a5).wf = true) :
    Calls Try.prog 6 #[.slice a0 len0 cap0, .slice a1 len1 cap1, .int .i64 a2, .int .i64 a3, .int .i64 a4, .int .i64 a5] w fun e w' => e = .returned (.bool true) ∧ Below w.heap.size w w' := by
  obtain ⟨l0, rfl, hr0, hm0, hw0, hc0⟩ := ReadsInt.ofRowC w0
  obtain ⟨l1, rfl, hr1, hm1, hw1, hc1⟩ := ReadsInt.ofRowC w1
  obtain ⟨k, h⟩ := P l0 l1 a2 a3 a4 a5 hm0 y0 hw0 hm1 y1 hw1 w2 w3 w4 w5
  refine (railplanlaw6_DynamicsLongerIsNotEarlier.calls k _ _ l0 _ _ l1 a2 a3 a4 a5 true w (Kd.C_of_reads (d := (0 : Int)) (h1 := fun _ => rfl) hr0) hc0 (Kd.C_of_reads (d := (0 : Int)) (h1 := fun _ => rfl) hr1) hc1 h).mono ?_
  rintro e w' ⟨rfl, hd⟩
  exact ⟨rfl, hd⟩

end Go.Proofs.Ytfnpoalffpnllaa.XDynamicsLongerIsNotEarlier
