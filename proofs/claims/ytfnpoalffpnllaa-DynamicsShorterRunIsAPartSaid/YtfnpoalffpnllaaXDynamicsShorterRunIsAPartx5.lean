-- This session's own text, written by wip/tools/xprint.py after the form of the kit's print.
import Derived.Test.YtfnpoalffpnllaaXDynamicsShorterRunIsAPartx0
import Derived.Test.YtfnpoalffpnllaaXDynamicsShorterRunIsAPartx1
import Derived.Test.YtfnpoalffpnllaaXDynamicsShorterRunIsAPartx4
namespace Go.Proofs.Ytfnpoalffpnllaa.XDynamicsShorterRunIsAPart
open Go.RowKit Go.Proofs.YtfnpoalffpnllaaW.PrintWords Go.Proofs.YtfnpoalffpnllaaW.PrintLast Go.Proofs.YtfnpoalffpnllaaW.PrintMore
attribute [local go_sem] max2_int min2_int max_two min_two max_three min_three max_four min_four   -- for this text's walks alone
set_option linter.unusedVariables false
set_option linter.unusedSimpArgs false

/-! ### railplanlaw6_DynamicsShorterRunIsAPart: function 7 -/
mutual
def railplanlaw6_DynamicsShorterRunIsAPart.j0 : Nat → List Int → List Int → Bool → Option (Bool)
  | 0, _, _, _ => none
  | k + 1, x12, x14, x78 => if x78 = true then (some false) else (railplanlaw6_DynamicsShorterRunIsAPart.l0 k x12 x14 (x14.length : Int) 0)
def railplanlaw6_DynamicsShorterRunIsAPart.l0 : Nat → List Int → List Int → Int → Int → Option (Bool)
  | 0, _, _, _, _ => none
  | k + 1, x12, x14, x80, x81 => if x81 < x80 then (if 0 ≤ x81 then (if x81 < (x14.length : Int) then (if x81 < (x12.length : Int) then (if (rd x14 x81) < (rd x12 x81) then (some false) else (railplanlaw6_DynamicsShorterRunIsAPart.l0 k x12 x14 x80 (wrap64 (x81 + 1)))) else (none)) else (none)) else (none)) else (some true)
end
def railplanlaw6_DynamicsShorterRunIsAPart.f (k : Nat) (l0 : List Int) (l1 : List Int) (a2 : Int) (a3 : Int) : Option (Bool) := (railplankeep_Cells.f k l0).bind fun t188 => ((railplankeep_Stock.f l1).bind fun bt191 => (if (t188.length : Int) < 3 then ((dynamics_Check.f bt191.1 bt191.2.1 bt191.2.2.1 bt191.2.2.2.1 bt191.2.2.2.2).bind fun t197 => (some t197)) else ((railplankeep_Pick.f a2 (wrap64 ((t188.length : Int) - 2))).bind fun t198 => ((railplankeep_Pick.f a3 (wrap64 ((wrap64 ((t188.length : Int) - t198)) - 2))).bind fun t199 => ((dynamics_Times.f k t188 t198 bt191.1 bt191.2.1 bt191.2.2.1 bt191.2.2.2.1 bt191.2.2.2.2).bind fun bt200 => (if 0 ≤ (wrap64 ((wrap64 (t198 + 2)) + t199)) then (if (wrap64 ((wrap64 (t198 + 2)) + t199)) ≤ (t188.length : Int) then ((dynamics_Times.f k (t188.take ((wrap64 ((wrap64 (t198 + 2)) + t199)) : Int).toNat) t198 bt191.1 bt191.2.1 bt191.2.2.1 bt191.2.2.2.1 bt191.2.2.2.2).bind fun bt208 => (if bt200.2 = 0 then (if bt208.2 = 0 then (if (bt208.1.length : Int) = (wrap64 ((wrap64 ((wrap64 ((wrap64 (t198 + 2)) + t199)) - t198)) + 1)) then (railplanlaw6_DynamicsShorterRunIsAPart.j0 k bt200.1 bt208.1 (decide ((bt200.1.length : Int) ≤ (bt208.1.length : Int)))) else (railplanlaw6_DynamicsShorterRunIsAPart.j0 k bt200.1 bt208.1 true)) else (railplanlaw6_DynamicsShorterRunIsAPart.j0 k bt200.1 bt208.1 true)) else (railplanlaw6_DynamicsShorterRunIsAPart.j0 k bt200.1 bt208.1 true))) else (none)) else (none)))))))
theorem railplanlaw6_DynamicsShorterRunIsAPart.mono_l : ∀ k, (∀ y0 y1 y2, LeO (railplanlaw6_DynamicsShorterRunIsAPart.j0 k y0 y1 y2) (railplanlaw6_DynamicsShorterRunIsAPart.j0 (k + 1) y0 y1 y2)) ∧ (∀ y0 y1 y2 y3, LeO (railplanlaw6_DynamicsShorterRunIsAPart.l0 k y0 y1 y2 y3) (railplanlaw6_DynamicsShorterRunIsAPart.l0 (k + 1) y0 y1 y2 y3))
  | 0 => ⟨fun _ _ _ r h => by simp [railplanlaw6_DynamicsShorterRunIsAPart.j0] at h, fun _ _ _ _ r h => by simp [railplanlaw6_DynamicsShorterRunIsAPart.l0] at h⟩
  | k + 1 => by
    obtain ⟨ih0, ih1⟩ := railplanlaw6_DynamicsShorterRunIsAPart.mono_l k
    refine ⟨?_, ?_⟩
    · intro y0 y1 y2
      unfold railplanlaw6_DynamicsShorterRunIsAPart.j0
      repeat' first
      | (with_reducible exact ih0 _ _ _)
      | (with_reducible exact ih1 _ _ _ _)
      | (with_reducible exact dynamics_Times.mono _ _ _ _ _ _ _ _)
      | (with_reducible exact railplankeep_Cells.mono _ _)
      | (with_reducible exact LeO.refl _)
      | (with_reducible exact LeO.none _)
      | (with_reducible refine LeO.ite ?_ ?_)
      | (with_reducible refine LeO.bind ?_ (fun _ => ?_))
      | exact ih0 _ _ _
      | exact ih1 _ _ _ _
      | exact dynamics_Times.mono _ _ _ _ _ _ _ _
      | exact railplankeep_Cells.mono _ _
      | exact LeO.none _
      | refine LeO.ite ?_ ?_
      | refine LeO.bind ?_ (fun _ => ?_)
    · intro y0 y1 y2 y3
      unfold railplanlaw6_DynamicsShorterRunIsAPart.l0
      repeat' first
      | (with_reducible exact ih0 _ _ _)
      | (with_reducible exact ih1 _ _ _ _)
      | (with_reducible exact dynamics_Times.mono _ _ _ _ _ _ _ _)
      | (with_reducible exact railplankeep_Cells.mono _ _)
      | (with_reducible exact LeO.refl _)
      | (with_reducible exact LeO.none _)
      | (with_reducible refine LeO.ite ?_ ?_)
      | (with_reducible refine LeO.bind ?_ (fun _ => ?_))
      | exact ih0 _ _ _
      | exact ih1 _ _ _ _
      | exact dynamics_Times.mono _ _ _ _ _ _ _ _
      | exact railplankeep_Cells.mono _ _
      | exact LeO.none _
      | refine LeO.ite ?_ ?_
      | refine LeO.bind ?_ (fun _ => ?_)
theorem railplanlaw6_DynamicsShorterRunIsAPart.mono : ∀ a0 a1 a2 a3 k, LeO (railplanlaw6_DynamicsShorterRunIsAPart.f k a0 a1 a2 a3) (railplanlaw6_DynamicsShorterRunIsAPart.f (k + 1) a0 a1 a2 a3) := by
  intro a0 a1 a2 a3 k
  obtain ⟨ih0, ih1⟩ := railplanlaw6_DynamicsShorterRunIsAPart.mono_l k
  unfold railplanlaw6_DynamicsShorterRunIsAPart.f
  repeat' first
      | (with_reducible exact ih0 _ _ _)
      | (with_reducible exact ih1 _ _ _ _)
      | (with_reducible exact dynamics_Times.mono _ _ _ _ _ _ _ _)
      | (with_reducible exact railplankeep_Cells.mono _ _)
      | (with_reducible exact LeO.refl _)
      | (with_reducible exact LeO.none _)
      | (with_reducible refine LeO.ite ?_ ?_)
      | (with_reducible refine LeO.bind ?_ (fun _ => ?_))
      | exact ih0 _ _ _
      | exact ih1 _ _ _ _
      | exact dynamics_Times.mono _ _ _ _ _ _ _ _
      | exact railplankeep_Cells.mono _ _
      | exact LeO.none _
      | refine LeO.ite ?_ ?_
      | refine LeO.bind ?_ (fun _ => ?_)
def railplanlaw6_DynamicsShorterRunIsAPart.T7 : Bool × List (List Nat × List Nat) := (true, [([], []), ([], []), ([0, 1], [0, 1]), ([], []), ([], []), ([2, 3, 4], [2, 3, 4]), ([5], [5]), ([6], [6]), ([6], [6]), ([7, 5, 0, 1, 2, 3, 4, 5, 6, 7], [7]), ([8, 9, 0, 1, 2, 3, 4, 5, 6, 7, 8, 9], [8])])
def railplanlaw6_DynamicsShorterRunIsAPart.B7 : List Nat := [0, 0, 3, 0, 0, 31, 63, 127, 127, 255, 1023]
theorem railplanlaw6_DynamicsShorterRunIsAPart.tab7 : rtab .any (opsOf Try.f7 7) = railplanlaw6_DynamicsShorterRunIsAPart.T7 := by kernel_rfl
theorem railplanlaw6_DynamicsShorterRunIsAPart.bits7 : waitsOk railplanlaw6_DynamicsShorterRunIsAPart.T7.2 railplanlaw6_DynamicsShorterRunIsAPart.B7 = true := by kernel_rfl
def railplanlaw6_DynamicsShorterRunIsAPart.T13 : Bool × List (List Nat × List Nat) := (true, [([], []), ([], []), ([0, 1], [0, 1]), ([2], [2]), ([], []), ([], []), ([4, 5], [4, 5]), ([6], [6]), ([3, 7], [3, 7])])
def railplanlaw6_DynamicsShorterRunIsAPart.B13 : List Nat := [0, 0, 3, 7, 0, 0, 48, 112, 255]
theorem railplanlaw6_DynamicsShorterRunIsAPart.tab13 : rtab .any (opsOf Try.f7 13) = railplanlaw6_DynamicsShorterRunIsAPart.T13 := by kernel_rfl
theorem railplanlaw6_DynamicsShorterRunIsAPart.bits13 : waitsOk railplanlaw6_DynamicsShorterRunIsAPart.T13.2 railplanlaw6_DynamicsShorterRunIsAPart.B13 = true := by kernel_rfl
set_option maxHeartbeats 8000000 in
set_option maxRecDepth 100000 in
theorem railplanlaw6_DynamicsShorterRunIsAPart.calls (k : Nat) (A0 : Option Addr) (c0 : Nat) (l0 : List Int) (A1 : Option Addr) (c1 : Nat) (l1 : List Int) (a2 : Int) (a3 : Int) (r : Bool) (w : World) (hr0 : Kd.C (Kd.int .i64) w A0 l0.length l0) (hc0 : l0.length ≤ c0) (hr1 : Kd.C (Kd.int .i64) w A1 l1.length l1) (hc1 : l1.length ≤ c1) (h : railplanlaw6_DynamicsShorterRunIsAPart.f k l0 l1 a2 a3 = some r) :
    Calls Try.prog 7 #[.slice A0 l0.length c0, .slice A1 l1.length c1, .int .i64 a2, .int .i64 a3] w fun e w' => e = .returned (.bool r) ∧ Below w.heap.size w w' := by
  have hu26 := Try.underlying26
  have HR0 := Aside0.mk hr0
  have HC0 := Aside0.mk hc0
  clear hr0 hc0
  have HR1 := Aside0.mk hr1
  have HC1 := Aside0.mk hc1
  clear hr1 hc1
  have HB := Aside0.mk (Below.refl w.heap.size w)
  have H : ((railplankeep_Cells.f k l0).bind fun t188 => ((railplankeep_Stock.f l1).bind fun bt191 => (if (t188.length : Int) < 3 then ((dynamics_Check.f bt191.1 bt191.2.1 bt191.2.2.1 bt191.2.2.2.1 bt191.2.2.2.2).bind fun t197 => (some t197)) else ((railplankeep_Pick.f a2 (wrap64 ((t188.length : Int) - 2))).bind fun t198 => ((railplankeep_Pick.f a3 (wrap64 ((wrap64 ((t188.length : Int) - t198)) - 2))).bind fun t199 => ((dynamics_Times.f k t188 t198 bt191.1 bt191.2.1 bt191.2.2.1 bt191.2.2.2.1 bt191.2.2.2.2).bind fun bt200 => (if 0 ≤ (wrap64 ((wrap64 (t198 + 2)) + t199)) then (if (wrap64 ((wrap64 (t198 + 2)) + t199)) ≤ (t188.length : Int) then ((dynamics_Times.f k (t188.take ((wrap64 ((wrap64 (t198 + 2)) + t199)) : Int).toNat) t198 bt191.1 bt191.2.1 bt191.2.2.1 bt191.2.2.2.1 bt191.2.2.2.2).bind fun bt208 => (if bt200.2 = 0 then (if bt208.2 = 0 then (if (bt208.1.length : Int) = (wrap64 ((wrap64 ((wrap64 ((wrap64 (t198 + 2)) + t199)) - t198)) + 1)) then (railplanlaw6_DynamicsShorterRunIsAPart.j0 k bt200.1 bt208.1 (decide ((bt200.1.length : Int) ≤ (bt208.1.length : Int)))) else (railplanlaw6_DynamicsShorterRunIsAPart.j0 k bt200.1 bt208.1 true)) else (railplanlaw6_DynamicsShorterRunIsAPart.j0 k bt200.1 bt208.1 true)) else (railplanlaw6_DynamicsShorterRunIsAPart.j0 k bt200.1 bt208.1 true))) else (none)) else (none)))))))) = some r := h
  clear h
  replace H := Option.bind_eq_some_iff.mp H
  obtain ⟨t188, A50, H⟩ := H
  replace H : ((railplankeep_Stock.f l1).bind fun bt191 => (if (t188.length : Int) < 3 then ((dynamics_Check.f bt191.1 bt191.2.1 bt191.2.2.1 bt191.2.2.2.1 bt191.2.2.2.2).bind fun t197 => (some t197)) else ((railplankeep_Pick.f a2 (wrap64 ((t188.length : Int) - 2))).bind fun t198 => ((railplankeep_Pick.f a3 (wrap64 ((wrap64 ((t188.length : Int) - t198)) - 2))).bind fun t199 => ((dynamics_Times.f k t188 t198 bt191.1 bt191.2.1 bt191.2.2.1 bt191.2.2.2.1 bt191.2.2.2.2).bind fun bt200 => (if 0 ≤ (wrap64 ((wrap64 (t198 + 2)) + t199)) then (if (wrap64 ((wrap64 (t198 + 2)) + t199)) ≤ (t188.length : Int) then ((dynamics_Times.f k (t188.take ((wrap64 ((wrap64 (t198 + 2)) + t199)) : Int).toNat) t198 bt191.1 bt191.2.1 bt191.2.2.1 bt191.2.2.2.1 bt191.2.2.2.2).bind fun bt208 => (if bt200.2 = 0 then (if bt208.2 = 0 then (if (bt208.1.length : Int) = (wrap64 ((wrap64 ((wrap64 ((wrap64 (t198 + 2)) + t199)) - t198)) + 1)) then (railplanlaw6_DynamicsShorterRunIsAPart.j0 k bt200.1 bt208.1 (decide ((bt200.1.length : Int) ≤ (bt208.1.length : Int)))) else (railplanlaw6_DynamicsShorterRunIsAPart.j0 k bt200.1 bt208.1 true)) else (railplanlaw6_DynamicsShorterRunIsAPart.j0 k bt200.1 bt208.1 true)) else (railplanlaw6_DynamicsShorterRunIsAPart.j0 k bt200.1 bt208.1 true))) else (none)) else (none))))))) = some r := H
  have A5 := Aside0.mk A50
  clear A50
  replace H := Option.bind_eq_some_iff.mp H
  obtain ⟨⟨t191, t192, t193, t194, t195⟩, A60, H⟩ := H
  replace H : (if (t188.length : Int) < 3 then ((dynamics_Check.f t191 t192 t193 t194 t195).bind fun t197 => (some t197)) else ((railplankeep_Pick.f a2 (wrap64 ((t188.length : Int) - 2))).bind fun t198 => ((railplankeep_Pick.f a3 (wrap64 ((wrap64 ((t188.length : Int) - t198)) - 2))).bind fun t199 => ((dynamics_Times.f k t188 t198 t191 t192 t193 t194 t195).bind fun bt200 => (if 0 ≤ (wrap64 ((wrap64 (t198 + 2)) + t199)) then (if (wrap64 ((wrap64 (t198 + 2)) + t199)) ≤ (t188.length : Int) then ((dynamics_Times.f k (t188.take ((wrap64 ((wrap64 (t198 + 2)) + t199)) : Int).toNat) t198 t191 t192 t193 t194 t195).bind fun bt208 => (if bt200.2 = 0 then (if bt208.2 = 0 then (if (bt208.1.length : Int) = (wrap64 ((wrap64 ((wrap64 ((wrap64 (t198 + 2)) + t199)) - t198)) + 1)) then (railplanlaw6_DynamicsShorterRunIsAPart.j0 k bt200.1 bt208.1 (decide ((bt200.1.length : Int) ≤ (bt208.1.length : Int)))) else (railplanlaw6_DynamicsShorterRunIsAPart.j0 k bt200.1 bt208.1 true)) else (railplanlaw6_DynamicsShorterRunIsAPart.j0 k bt200.1 bt208.1 true)) else (railplanlaw6_DynamicsShorterRunIsAPart.j0 k bt200.1 bt208.1 true))) else (none)) else (none)))))) = some r := H
  have A6 := Aside0.mk A60
  clear A60
  by_cases c7 : (t188.length : Int) < 3
  · rw [if_pos c7] at H
    have c7b0 : decide ((t188.length : Int) < 3) = true := decide_eq_true c7
    have c7b1 : decide (t188.length < 3) = true := decide_eq_true (by omega)
    clear c7
    replace H := Option.bind_eq_some_iff.mp H
    obtain ⟨t197, A80, H⟩ := H
    replace H : (some t197) = some r := H
    have A8 := Aside0.mk A80
    clear A80
    obtain rfl := Option.some.inj H
    go_enter Try.func7, Try.ntmps7
    go_wp2_with (first | ((with_reducible refine gate_callee (f := 13) rfl ?_); refine goesL_ (some 18) rfl rfl Try.func13 (by kernel_rfl) rfl #[.slice A0 l0.length c0] rfl (by (try simp only [List.map_toArray, List.map_cons, List.map_nil]); first | done | rfl | (simp only [List.length_drop, List.length_take]; rfl)) ?_; (with_reducible refine (railplankeep_Cells.calls k _ _ l0 t188 _ ?side1 ?side2 A5.out).mono ?_); (case side1 => repeat (first | exact HR0.out | (with_reducible refine Kd.C_alloc ?_ _) | (with_reducible refine Kd.C_drewN ?_ _) | (with_reducible refine Kd.C_drew ?_))); (case side2 => exact HC0.out); rintro e w9 ⟨v189, rfl, ho0, hb⟩; refine ⟨_, rfl, ?_⟩; have n0_ := Aside0.mk (Kd.R_lower ho0 (below_size (by repeat (first | (with_reducible first | exact HB.out | apply below_alloc | apply pw_below_drewN | apply below_drew1) | exact HB.out)))); have n1_ := Aside0.mk (below_step (by repeat (first | (with_reducible first | exact HB.out | apply below_alloc | apply pw_below_drewN | apply below_drew1) | exact HB.out)) hb); clear HB; have HO190 := n0_; have HB := n1_; clear n0_ n1_; (try clear hb); (try clear hb2); (try clear hk); (try clear hi); (try clear ho0)) | ((with_reducible refine gate_callee (f := 14) rfl ?_); refine goesL_ (some 20) rfl rfl Try.func14 (by kernel_rfl) rfl #[.slice A1 l1.length c1] rfl (by (try simp only [List.map_toArray, List.map_cons, List.map_nil]); first | done | rfl | (simp only [List.length_drop, List.length_take]; rfl)) ?_; (with_reducible refine (railplankeep_Stock.calls _ _ l1 t191 t192 t193 t194 t195 _ ?side1 ?side2 A6.out).mono ?_); (case side1 => repeat (first | exact (Kd.C_below HR1.out HB.out) | (with_reducible refine Kd.C_alloc ?_ _) | (with_reducible refine Kd.C_drewN ?_ _) | (with_reducible refine Kd.C_drew ?_))); (case side2 => exact HC1.out); rintro e w10 ⟨rfl, hb⟩; refine ⟨_, rfl, ?_⟩; have n0_ := Aside0.mk (Kd.R_below (by (with_reducible repeat (first | apply Kd.R_alloc | apply Kd.R_drewN | apply Kd.R_drew)); exact HO190.out) hb); have n1_ := Aside0.mk (below_step (by repeat (first | (with_reducible first | exact HB.out | apply below_alloc | apply pw_below_drewN | apply below_drew1) | exact HB.out)) hb); clear HO190; clear HB; have HO190 := n0_; have HB := n1_; clear n0_ n1_; (try clear hb); (try clear hb2); (try clear hk); (try clear hi)) | ((with_reducible refine gate_dst (N := 10) rfl ?_); (try (refine gate_guard (by rfl) ?_; dsimp only)); refine box_event ?hg (N := 10) ?hd (cs := #[.string (⟨#[]⟩ : ByteArray), .int .i64 0, .int .i64 0, .int .i64 0, .int .i64 0]) (t := 26) ?hr ?_; (case hd => rfl); (case hg => rfl); (case hr => first | (go_simp; done) | (go_simp; rfl)); intro gb196 hg w11 hbox hb; have n0_ := Aside0.mk (Kd.R_below (by (with_reducible repeat (first | apply Kd.R_alloc | apply Kd.R_drewN | apply Kd.R_drew)); exact HO190.out) hb); have n1_ := Aside0.mk (below_step (by repeat (first | (with_reducible first | exact HB.out | apply below_alloc | apply pw_below_drewN | apply below_drew1) | exact HB.out)) hb); have n2_ := Aside0.mk (hbox); have n3_ := Aside0.mk ((by rw [hg]; exact (below_size (by repeat (first | (with_reducible first | exact HB.out | apply below_alloc | apply pw_below_drewN | apply below_drew1) | exact HB.out))) : w.heap.size ≤ gb196)); have n4_ := Aside0.mk ((by rw [hg]; exact (below_size (by repeat (first | (with_reducible first | exact HB.out | apply below_alloc | apply pw_below_drewN | apply below_drew1) | exact HB.out))) : w.heap.size ≤ gb196)); clear HO190; clear HB; have HO190 := n0_; have HB := n1_; have BK196 := n2_; have GW196 := n3_; have GE196 := n4_; clear n0_ n1_ n2_ n3_ n4_; clear hb hbox hg; have hcz12_0 : w11.cell? ⟨gb196, 0, none⟩ = some (.string (⟨#[]⟩ : ByteArray)) := (blk_cell BK196.out 0).trans rfl; have hcz12_1 : w11.cell? ⟨gb196, 1, none⟩ = some (.int .i64 0) := (blk_cell BK196.out 1).trans rfl; have hcz12_2 : w11.cell? ⟨gb196, 2, none⟩ = some (.int .i64 0) := (blk_cell BK196.out 2).trans rfl; have hcz12_3 : w11.cell? ⟨gb196, 3, none⟩ = some (.int .i64 0) := (blk_cell BK196.out 3).trans rfl; have hcz12_4 : w11.cell? ⟨gb196, 4, none⟩ = some (.int .i64 0) := (blk_cell BK196.out 4).trans rfl; have hfz12_0 := blk_frozen BK196.out 0; have hfz12_1 := blk_frozen BK196.out 1; have hfz12_2 := blk_frozen BK196.out 2; have hfz12_3 := blk_frozen BK196.out 3; have hfz12_4 := blk_frozen BK196.out 4; obtain ⟨Ao13, co13, eo13⟩ := Kd.R_slice HO190.out; subst eo13) | ((with_reducible refine gate_callee (f := 15) rfl ?_); refine goesL_ (some 25) rfl rfl Try.func15 (by kernel_rfl) rfl #[.agg #[.string t191, .int .i64 t192, .int .i64 t193, .int .i64 t194, .int .i64 t195]] rfl (by (try simp only [List.map_toArray, List.map_cons, List.map_nil]); first | done | rfl | (simp only [List.length_drop, List.length_take]; rfl)) ?_; (with_reducible refine (dynamics_Check.calls t191 t192 t193 t194 t195 t197 _ A8.out).mono ?_); rintro e w14 ⟨rfl, hb⟩; refine ⟨_, rfl, ?_⟩; have n0_ := Aside0.mk (Kd.R_below (by (with_reducible repeat (first | apply Kd.R_alloc | apply Kd.R_drewN | apply Kd.R_drew)); exact (Kd.R_mono (Kd.R_far (p := ⟨gb196, 4, none⟩) (Kd.R_far (p := ⟨gb196, 3, none⟩) (Kd.R_far (p := ⟨gb196, 2, none⟩) (Kd.R_far (p := ⟨gb196, 1, none⟩) (Kd.R_far (p := ⟨gb196, 0, none⟩) (Kd.R_types HO190.out BK196.out (by decide)) (fun _ hk => hk.2) (.string t191)) (fun _ hk => hk.2) (.int .i64 t192)) (fun _ hk => hk.2) (.int .i64 t193)) (fun _ hk => hk.2) (.int .i64 t194)) (fun _ hk => hk.2) (.int .i64 t195)) (fun _ h_ => h_.1))) hb); have n1_ := Aside0.mk (blk_below (g := gb196) (o := .cells #[.string t191, .int .i64 t192, .int .i64 t193, .int .i64 t194, .int .i64 t195] 26 (0, 0)) (by (with_reducible repeat (first | refine blk_drewN ?_ _ | refine blk_drew ?_ | refine blk_alloc ?_ _)); refine blk_put (cs := #[.string t191, .int .i64 t192, .int .i64 t193, .int .i64 t194, .int .i64 0]) ?_ 4 _ rfl; (with_reducible repeat (first | refine blk_drewN ?_ _ | refine blk_drew ?_ | refine blk_alloc ?_ _)); refine blk_put (cs := #[.string t191, .int .i64 t192, .int .i64 t193, .int .i64 0, .int .i64 0]) ?_ 3 _ rfl; (with_reducible repeat (first | refine blk_drewN ?_ _ | refine blk_drew ?_ | refine blk_alloc ?_ _)); refine blk_put (cs := #[.string t191, .int .i64 t192, .int .i64 0, .int .i64 0, .int .i64 0]) ?_ 2 _ rfl; (with_reducible repeat (first | refine blk_drewN ?_ _ | refine blk_drew ?_ | refine blk_alloc ?_ _)); refine blk_put (cs := #[.string t191, .int .i64 0, .int .i64 0, .int .i64 0, .int .i64 0]) ?_ 1 _ rfl; (with_reducible repeat (first | refine blk_drewN ?_ _ | refine blk_drew ?_ | refine blk_alloc ?_ _)); refine blk_put (cs := #[.string (⟨#[]⟩ : ByteArray), .int .i64 0, .int .i64 0, .int .i64 0, .int .i64 0]) ?_ 0 _ rfl; (with_reducible repeat (first | refine blk_drewN ?_ _ | refine blk_drew ?_ | refine blk_alloc ?_ _)); exact BK196.out) hb); have n2_ := Aside0.mk (below_step (by repeat (first | (with_reducible first | exact HB.out | apply below_alloc | apply pw_below_drewN | apply below_drew1 | refine below_set ?_ GE196.out) | exact HB.out)) hb); clear HO190; clear BK196; clear HB; have HO190 := n0_; have BK196 := n1_; have HB := n2_; clear n0_ n1_ n2_; (try clear hb); (try clear hb2); (try clear hk); (try clear hi)))
    go_ret
    exact ⟨by first | rfl | (simp [errW_none, errW_some] <;> rfl) | (simp [*, errW_none, errW_some] <;> rfl), by repeat (first | (with_reducible first | exact HB.out | apply below_alloc | apply pw_below_drewN | apply below_drew1 | refine below_set ?_ GE196.out) | exact HB.out)⟩
  · rw [if_neg c7] at H
    have c7b0 : decide ((t188.length : Int) < 3) = false := decide_eq_false c7
    have c7b1 : decide (t188.length < 3) = false := decide_eq_false (by omega)
    clear c7
    replace H := Option.bind_eq_some_iff.mp H
    obtain ⟨t198, A150, H⟩ := H
    replace H : ((railplankeep_Pick.f a3 (wrap64 ((wrap64 ((t188.length : Int) - t198)) - 2))).bind fun t199 => ((dynamics_Times.f k t188 t198 t191 t192 t193 t194 t195).bind fun bt200 => (if 0 ≤ (wrap64 ((wrap64 (t198 + 2)) + t199)) then (if (wrap64 ((wrap64 (t198 + 2)) + t199)) ≤ (t188.length : Int) then ((dynamics_Times.f k (t188.take ((wrap64 ((wrap64 (t198 + 2)) + t199)) : Int).toNat) t198 t191 t192 t193 t194 t195).bind fun bt208 => (if bt200.2 = 0 then (if bt208.2 = 0 then (if (bt208.1.length : Int) = (wrap64 ((wrap64 ((wrap64 ((wrap64 (t198 + 2)) + t199)) - t198)) + 1)) then (railplanlaw6_DynamicsShorterRunIsAPart.j0 k bt200.1 bt208.1 (decide ((bt200.1.length : Int) ≤ (bt208.1.length : Int)))) else (railplanlaw6_DynamicsShorterRunIsAPart.j0 k bt200.1 bt208.1 true)) else (railplanlaw6_DynamicsShorterRunIsAPart.j0 k bt200.1 bt208.1 true)) else (railplanlaw6_DynamicsShorterRunIsAPart.j0 k bt200.1 bt208.1 true))) else (none)) else (none)))) = some r := H
    have A15 := Aside0.mk A150
    clear A150
    replace H := Option.bind_eq_some_iff.mp H
    obtain ⟨t199, A160, H⟩ := H
    replace H : ((dynamics_Times.f k t188 t198 t191 t192 t193 t194 t195).bind fun bt200 => (if 0 ≤ (wrap64 ((wrap64 (t198 + 2)) + t199)) then (if (wrap64 ((wrap64 (t198 + 2)) + t199)) ≤ (t188.length : Int) then ((dynamics_Times.f k (t188.take ((wrap64 ((wrap64 (t198 + 2)) + t199)) : Int).toNat) t198 t191 t192 t193 t194 t195).bind fun bt208 => (if bt200.2 = 0 then (if bt208.2 = 0 then (if (bt208.1.length : Int) = (wrap64 ((wrap64 ((wrap64 ((wrap64 (t198 + 2)) + t199)) - t198)) + 1)) then (railplanlaw6_DynamicsShorterRunIsAPart.j0 k bt200.1 bt208.1 (decide ((bt200.1.length : Int) ≤ (bt208.1.length : Int)))) else (railplanlaw6_DynamicsShorterRunIsAPart.j0 k bt200.1 bt208.1 true)) else (railplanlaw6_DynamicsShorterRunIsAPart.j0 k bt200.1 bt208.1 true)) else (railplanlaw6_DynamicsShorterRunIsAPart.j0 k bt200.1 bt208.1 true))) else (none)) else (none))) = some r := H
    have A16 := Aside0.mk A160
    clear A160
    replace H := Option.bind_eq_some_iff.mp H
    obtain ⟨⟨t200, t203⟩, A170, H⟩ := H
    replace H : (if 0 ≤ (wrap64 ((wrap64 (t198 + 2)) + t199)) then (if (wrap64 ((wrap64 (t198 + 2)) + t199)) ≤ (t188.length : Int) then ((dynamics_Times.f k (t188.take ((wrap64 ((wrap64 (t198 + 2)) + t199)) : Int).toNat) t198 t191 t192 t193 t194 t195).bind fun bt208 => (if t203 = 0 then (if bt208.2 = 0 then (if (bt208.1.length : Int) = (wrap64 ((wrap64 ((wrap64 ((wrap64 (t198 + 2)) + t199)) - t198)) + 1)) then (railplanlaw6_DynamicsShorterRunIsAPart.j0 k t200 bt208.1 (decide ((t200.length : Int) ≤ (bt208.1.length : Int)))) else (railplanlaw6_DynamicsShorterRunIsAPart.j0 k t200 bt208.1 true)) else (railplanlaw6_DynamicsShorterRunIsAPart.j0 k t200 bt208.1 true)) else (railplanlaw6_DynamicsShorterRunIsAPart.j0 k t200 bt208.1 true))) else (none)) else (none)) = some r := H
    have A17 := Aside0.mk A170
    clear A170
    obtain ⟨ji18, hji18⟩ : ∃ j_ : Int, (wrap64 ((wrap64 (t198 + 2)) + t199)) = j_ := ⟨_, rfl⟩
    replace H : (if 0 ≤ (ji18) then (if (ji18) ≤ (t188.length : Int) then ((dynamics_Times.f k (t188.take ((ji18) : Int).toNat) t198 t191 t192 t193 t194 t195).bind fun bt208 => (if t203 = 0 then (if bt208.2 = 0 then (if (bt208.1.length : Int) = (wrap64 ((wrap64 ((ji18) - t198)) + 1)) then (railplanlaw6_DynamicsShorterRunIsAPart.j0 k t200 bt208.1 (decide ((t200.length : Int) ≤ (bt208.1.length : Int)))) else (railplanlaw6_DynamicsShorterRunIsAPart.j0 k t200 bt208.1 true)) else (railplanlaw6_DynamicsShorterRunIsAPart.j0 k t200 bt208.1 true)) else (railplanlaw6_DynamicsShorterRunIsAPart.j0 k t200 bt208.1 true))) else (none)) else (none)) = some r := by first | (rw [hji18] at H; exact H) | (simp only [hji18] at H ⊢; exact H)
    (try rw [hji18] at A5)
    (try rw [hji18] at A6)
    (try rw [hji18] at A15)
    (try rw [hji18] at A16)
    (try rw [hji18] at A17)
    have hji18w : (IntKind.i64.wrap ((wrap64 (t198 + 2)) + t199)) = ji18 := (i64_w _).trans hji18
    by_cases c19 : 0 ≤ (ji18)
    · rw [if_pos c19] at H
      have c19b0 := eq_true c19
      have c19b1 : decide (0 ≤ (ji18)) = true := decide_eq_true c19
      clear c19
      by_cases c20 : (ji18) ≤ (t188.length : Int)
      · rw [if_pos c20] at H
        have c20b0 := eq_true c20
        have c20b1 : decide ((ji18) ≤ (t188.length : Int)) = true := decide_eq_true c20
        clear c20
        obtain ⟨y204, hy204⟩ : ∃ y_ : List (S34), y_ = (t188.take ((ji18) : Int).toNat) := ⟨_, rfl⟩
        replace H : ((dynamics_Times.f k y204 t198 t191 t192 t193 t194 t195).bind fun bt208 => (if t203 = 0 then (if bt208.2 = 0 then (if (bt208.1.length : Int) = (wrap64 ((wrap64 ((ji18) - t198)) + 1)) then (railplanlaw6_DynamicsShorterRunIsAPart.j0 k t200 bt208.1 (decide ((t200.length : Int) ≤ (bt208.1.length : Int)))) else (railplanlaw6_DynamicsShorterRunIsAPart.j0 k t200 bt208.1 true)) else (railplanlaw6_DynamicsShorterRunIsAPart.j0 k t200 bt208.1 true)) else (railplanlaw6_DynamicsShorterRunIsAPart.j0 k t200 bt208.1 true))) = some r := by first | (rw [hy204]; with_reducible exact H) | (have H2_ := (Option.bind_some _ _).symm.trans H; rw [hy204]; with_reducible exact H2_) | (have H2_ := (Option.bind_some _ _).symm.trans H; with_reducible exact H2_) | with_reducible exact H | (rw [hy204]; exact H) | exact H
        have Ny204 := Aside0.mk hy204
        clear hy204
        replace H := Option.bind_eq_some_iff.mp H
        obtain ⟨⟨t208, t211⟩, A210, H⟩ := H
        replace H : (if t203 = 0 then (if t211 = 0 then (if (t208.length : Int) = (wrap64 ((wrap64 ((ji18) - t198)) + 1)) then (railplanlaw6_DynamicsShorterRunIsAPart.j0 k t200 t208 (decide ((t200.length : Int) ≤ (t208.length : Int)))) else (railplanlaw6_DynamicsShorterRunIsAPart.j0 k t200 t208 true)) else (railplanlaw6_DynamicsShorterRunIsAPart.j0 k t200 t208 true)) else (railplanlaw6_DynamicsShorterRunIsAPart.j0 k t200 t208 true)) = some r := H
        have A21 := Aside0.mk A210
        clear A210
        have HC22 := Aside0.mk H
        clear H
        go_enter Try.func7, Try.ntmps7
        try go_wp2_with (first | ((with_reducible refine gate_callee (f := 13) rfl ?_); refine goesL_ (some 18) rfl rfl Try.func13 (by kernel_rfl) rfl #[.slice A0 l0.length c0] rfl (by (try simp only [List.map_toArray, List.map_cons, List.map_nil]); first | done | rfl | (simp only [List.length_drop, List.length_take]; rfl)) ?_; (with_reducible refine (railplankeep_Cells.calls k _ _ l0 t188 _ ?side1 ?side2 A5.out).mono ?_); (case side1 => repeat (first | exact HR0.out | (with_reducible refine Kd.C_alloc ?_ _) | (with_reducible refine Kd.C_drewN ?_ _) | (with_reducible refine Kd.C_drew ?_))); (case side2 => exact HC0.out); rintro e w23 ⟨v189, rfl, ho0, hb⟩; refine ⟨_, rfl, ?_⟩; have n0_ := Aside0.mk (Kd.R_lower ho0 (below_size (by repeat (first | (with_reducible first | exact HB.out | apply below_alloc | apply pw_below_drewN | apply below_drew1) | exact HB.out)))); have n1_ := Aside0.mk (below_step (by repeat (first | (with_reducible first | exact HB.out | apply below_alloc | apply pw_below_drewN | apply below_drew1) | exact HB.out)) hb); clear HB; have HO190 := n0_; have HB := n1_; clear n0_ n1_; (try clear hb); (try clear hb2); (try clear hk); (try clear hi); (try clear ho0)) | ((with_reducible refine gate_callee (f := 14) rfl ?_); refine goesL_ (some 20) rfl rfl Try.func14 (by kernel_rfl) rfl #[.slice A1 l1.length c1] rfl (by (try simp only [List.map_toArray, List.map_cons, List.map_nil]); first | done | rfl | (simp only [List.length_drop, List.length_take]; rfl)) ?_; (with_reducible refine (railplankeep_Stock.calls _ _ l1 t191 t192 t193 t194 t195 _ ?side1 ?side2 A6.out).mono ?_); (case side1 => repeat (first | exact (Kd.C_below HR1.out HB.out) | (with_reducible refine Kd.C_alloc ?_ _) | (with_reducible refine Kd.C_drewN ?_ _) | (with_reducible refine Kd.C_drew ?_))); (case side2 => exact HC1.out); rintro e w24 ⟨rfl, hb⟩; refine ⟨_, rfl, ?_⟩; have n0_ := Aside0.mk (Kd.R_below (by (with_reducible repeat (first | apply Kd.R_alloc | apply Kd.R_drewN | apply Kd.R_drew)); exact HO190.out) hb); have n1_ := Aside0.mk (below_step (by repeat (first | (with_reducible first | exact HB.out | apply below_alloc | apply pw_below_drewN | apply below_drew1) | exact HB.out)) hb); clear HO190; clear HB; have HO190 := n0_; have HB := n1_; clear n0_ n1_; (try clear hb); (try clear hb2); (try clear hk); (try clear hi)) | ((with_reducible refine gate_dst (N := 10) rfl ?_); (try (refine gate_guard (by rfl) ?_; dsimp only)); refine box_event ?hg (N := 10) ?hd (cs := #[.string (⟨#[]⟩ : ByteArray), .int .i64 0, .int .i64 0, .int .i64 0, .int .i64 0]) (t := 26) ?hr ?_; (case hd => rfl); (case hg => rfl); (case hr => first | (go_simp; done) | (go_simp; rfl)); intro gb196 hg w25 hbox hb; have n0_ := Aside0.mk (Kd.R_below (by (with_reducible repeat (first | apply Kd.R_alloc | apply Kd.R_drewN | apply Kd.R_drew)); exact HO190.out) hb); have n1_ := Aside0.mk (below_step (by repeat (first | (with_reducible first | exact HB.out | apply below_alloc | apply pw_below_drewN | apply below_drew1) | exact HB.out)) hb); have n2_ := Aside0.mk (hbox); have n3_ := Aside0.mk ((by rw [hg]; exact (below_size (by repeat (first | (with_reducible first | exact HB.out | apply below_alloc | apply pw_below_drewN | apply below_drew1) | exact HB.out))) : w.heap.size ≤ gb196)); have n4_ := Aside0.mk ((by rw [hg]; exact (below_size (by repeat (first | (with_reducible first | exact HB.out | apply below_alloc | apply pw_below_drewN | apply below_drew1) | exact HB.out))) : w.heap.size ≤ gb196)); clear HO190; clear HB; have HO190 := n0_; have HB := n1_; have BK196 := n2_; have GW196 := n3_; have GE196 := n4_; clear n0_ n1_ n2_ n3_ n4_; clear hb hbox hg; have hcz26_0 : w25.cell? ⟨gb196, 0, none⟩ = some (.string (⟨#[]⟩ : ByteArray)) := (blk_cell BK196.out 0).trans rfl; have hcz26_1 : w25.cell? ⟨gb196, 1, none⟩ = some (.int .i64 0) := (blk_cell BK196.out 1).trans rfl; have hcz26_2 : w25.cell? ⟨gb196, 2, none⟩ = some (.int .i64 0) := (blk_cell BK196.out 2).trans rfl; have hcz26_3 : w25.cell? ⟨gb196, 3, none⟩ = some (.int .i64 0) := (blk_cell BK196.out 3).trans rfl; have hcz26_4 : w25.cell? ⟨gb196, 4, none⟩ = some (.int .i64 0) := (blk_cell BK196.out 4).trans rfl; have hfz26_0 := blk_frozen BK196.out 0; have hfz26_1 := blk_frozen BK196.out 1; have hfz26_2 := blk_frozen BK196.out 2; have hfz26_3 := blk_frozen BK196.out 3; have hfz26_4 := blk_frozen BK196.out 4; obtain ⟨Ao27, co27, eo27⟩ := Kd.R_slice HO190.out; subst eo27) | ((with_reducible refine gate_callee (f := 16) rfl ?_); refine goesL_ (some 30) rfl rfl Try.func16 (by kernel_rfl) rfl #[.int .i64 a2, .int .i64 (wrap64 ((t188.length : Int) - 2))] rfl (by (try simp only [List.map_toArray, List.map_cons, List.map_nil]); first | done | rfl | (simp only [List.length_drop, List.length_take]; rfl)) ?_; (with_reducible refine (railplankeep_Pick.calls a2 (wrap64 ((t188.length : Int) - 2)) t198 _ A15.out).mono ?_); rintro e w' ⟨rfl, ⟨nd, rfl⟩⟩; refine ⟨_, rfl, ?_⟩) | ((with_reducible refine gate_callee (f := 16) rfl ?_); refine goesL_ (some 39) rfl rfl Try.func16 (by kernel_rfl) rfl #[.int .i64 a3, .int .i64 (wrap64 ((wrap64 ((t188.length : Int) - t198)) - 2))] rfl (by (try simp only [List.map_toArray, List.map_cons, List.map_nil]); first | done | rfl | (simp only [List.length_drop, List.length_take]; rfl)) ?_; (with_reducible refine (railplankeep_Pick.calls a3 (wrap64 ((wrap64 ((t188.length : Int) - t198)) - 2)) t199 _ A16.out).mono ?_); rintro e w' ⟨rfl, ⟨nd, rfl⟩⟩; refine ⟨_, rfl, ?_⟩) | ((with_reducible refine gate_callee (f := 19) rfl ?_); refine goesL_ (some 45) rfl rfl Try.func19 (by kernel_rfl) rfl #[.slice Ao27 t188.length co27, .int .i64 t198, .agg #[.string t191, .int .i64 t192, .int .i64 t193, .int .i64 t194, .int .i64 t195]] rfl (by (try simp only [List.map_toArray, List.map_cons, List.map_nil]); first | done | rfl | (simp only [List.length_drop, List.length_take]; rfl)) ?_; (with_reducible refine (dynamics_Times.calls k _ _ t188 t198 t191 t192 t193 t194 t195 t200 t203 _ ?side1 ?side2 A17.out).mono ?_); (case side1 => refine (Kd.R_reads' (e := 34) (base := w.heap.size) (ok := fun k_ => True) (n := t188.length) (c := co27) ?_).2.2; exact (by (with_reducible repeat (first | apply Kd.R_alloc | apply Kd.R_drewN | apply Kd.R_drew)); exact (Kd.R_mono (Kd.R_far (p := ⟨gb196, 4, none⟩) (Kd.R_far (p := ⟨gb196, 3, none⟩) (Kd.R_far (p := ⟨gb196, 2, none⟩) (Kd.R_far (p := ⟨gb196, 1, none⟩) (Kd.R_far (p := ⟨gb196, 0, none⟩) (Kd.R_types HO190.out BK196.out (by decide)) (fun _ hk => hk.2) (.string t191)) (fun _ hk => hk.2) (.int .i64 t192)) (fun _ hk => hk.2) (.int .i64 t193)) (fun _ hk => hk.2) (.int .i64 t194)) (fun _ hk => hk.2) (.int .i64 t195)) (fun _ h_ => h_.1)))); (case side2 => exact (Kd.R_reads' HO190.out).2.1); rintro e w28 ⟨v201, rfl, ho0, hb⟩; refine ⟨_, rfl, ?_⟩; have n0_ := Aside0.mk (Kd.R_below (by (with_reducible repeat (first | apply Kd.R_alloc | apply Kd.R_drewN | apply Kd.R_drew)); exact (Kd.R_mono (Kd.R_far (p := ⟨gb196, 4, none⟩) (Kd.R_far (p := ⟨gb196, 3, none⟩) (Kd.R_far (p := ⟨gb196, 2, none⟩) (Kd.R_far (p := ⟨gb196, 1, none⟩) (Kd.R_far (p := ⟨gb196, 0, none⟩) (Kd.R_types HO190.out BK196.out (by decide)) (fun _ hk => hk.2) (.string t191)) (fun _ hk => hk.2) (.int .i64 t192)) (fun _ hk => hk.2) (.int .i64 t193)) (fun _ hk => hk.2) (.int .i64 t194)) (fun _ hk => hk.2) (.int .i64 t195)) (fun _ h_ => h_.1))) hb); have n1_ := Aside0.mk (Kd.R_lower ho0 (below_size (by repeat (first | (with_reducible first | exact HB.out | apply below_alloc | apply pw_below_drewN | apply below_drew1 | refine below_set ?_ GE196.out) | exact HB.out)))); have n2_ := Aside0.mk (blk_below (g := gb196) (o := .cells #[.string t191, .int .i64 t192, .int .i64 t193, .int .i64 t194, .int .i64 t195] 26 (0, 0)) (by (with_reducible repeat (first | refine blk_drewN ?_ _ | refine blk_drew ?_ | refine blk_alloc ?_ _)); refine blk_put (cs := #[.string t191, .int .i64 t192, .int .i64 t193, .int .i64 t194, .int .i64 0]) ?_ 4 _ rfl; (with_reducible repeat (first | refine blk_drewN ?_ _ | refine blk_drew ?_ | refine blk_alloc ?_ _)); refine blk_put (cs := #[.string t191, .int .i64 t192, .int .i64 t193, .int .i64 0, .int .i64 0]) ?_ 3 _ rfl; (with_reducible repeat (first | refine blk_drewN ?_ _ | refine blk_drew ?_ | refine blk_alloc ?_ _)); refine blk_put (cs := #[.string t191, .int .i64 t192, .int .i64 0, .int .i64 0, .int .i64 0]) ?_ 2 _ rfl; (with_reducible repeat (first | refine blk_drewN ?_ _ | refine blk_drew ?_ | refine blk_alloc ?_ _)); refine blk_put (cs := #[.string t191, .int .i64 0, .int .i64 0, .int .i64 0, .int .i64 0]) ?_ 1 _ rfl; (with_reducible repeat (first | refine blk_drewN ?_ _ | refine blk_drew ?_ | refine blk_alloc ?_ _)); refine blk_put (cs := #[.string (⟨#[]⟩ : ByteArray), .int .i64 0, .int .i64 0, .int .i64 0, .int .i64 0]) ?_ 0 _ rfl; (with_reducible repeat (first | refine blk_drewN ?_ _ | refine blk_drew ?_ | refine blk_alloc ?_ _)); exact BK196.out) hb); have n3_ := Aside0.mk (below_step (by repeat (first | (with_reducible first | exact HB.out | apply below_alloc | apply pw_below_drewN | apply below_drew1 | refine below_set ?_ GE196.out) | exact HB.out)) hb); clear HO190; clear BK196; clear HB; have HO190 := n0_; have HO202 := n1_; have BK196 := n2_; have HB := n3_; clear n0_ n1_ n2_ n3_; (try clear hb); (try clear hb2); (try clear hk); (try clear hi); (try clear ho0)))
        have n0_ := Aside0.mk (Kd.R_drew HO190.out)
        have n1_ := Aside0.mk (Kd.R_drew HO202.out)
        have n2_ := Aside0.mk (blk_drew BK196.out)
        have n3_ := Aside0.mk (below_drew1 HB.out)
        clear HO190
        clear HO202
        clear BK196
        clear HB
        have HO190 := n0_
        have HO202 := n1_
        have BK196 := n2_
        have HB := n3_
        clear n0_ n1_ n2_ n3_
        have q30 : ((ji18) : Int) ≤ ((t188.length : Int) : Int) := of_decide_eq_true (by first | (with_reducible assumption) | assumption)
        obtain ⟨i030, hi030, _, hsz30, _⟩ := info_parts info34
        have hroom30 : t188.length ≤ co27 := (Kd.R_reads' HO190.out).2.1
        have hC30 : Kd.C k34 _ Ao27 t188.length t188 := (Kd.R_reads' HO190.out).2.2
        have hcut30 := cut_to (P := Try.prog) 23 34 .i64 Try.underlying23 hi030 Ao27 t188.length co27 (ji18) (of_decide_eq_true (by first | (with_reducible assumption) | assumption)) q30 hroom30
        have hr30 := Kd.C_take (m := ((ji18) : Int).toNat) hC30 (by omega)
        have hy30 : y204.length = ((ji18) : Int).toNat := (by rw [Ny204.out, List.length_take]; omega)
        rw [← Ny204.out] at hr30
        rw [← hy30] at hcut30
        have HR207 := Aside0.mk hr30
        have HC207 := Aside0.mk (show y204.length ≤ co27 from by omega)
        clear hr30 hC30 hroom30 hi030 hsz30
        have KY30 := Aside0.mk hy30
        clear hy30
        have KL30 := Aside0.mk (show ((ji18) : Int).toNat ≤ t188.length from by omega)
        replace q30 := eq_true q30
        refine start_ (n := 11) (S := fun w' => w'.cell? ⟨gb196, 0, none⟩ = some (.string t191) ∧ w'.cell? ⟨gb196, 1, none⟩ = some (.int .i64 t192) ∧ w'.cell? ⟨gb196, 2, none⟩ = some (.int .i64 t193) ∧ w'.cell? ⟨gb196, 3, none⟩ = some (.int .i64 t194) ∧ w'.cell? ⟨gb196, 4, none⟩ = some (.int .i64 t195)) (ds := []) #[false, false, false, false, false, false, false, false, false, false, false] (by kernel_rfl) rfl rfl ⟨(blk_cell BK196.out 0).trans rfl, (blk_cell BK196.out 1).trans rfl, (blk_cell BK196.out 2).trans rfl, (blk_cell BK196.out 3).trans rfl, (blk_cell BK196.out 4).trans rfl⟩ (fun hHeld => ?_); refine with_tabW railplanlaw6_DynamicsShorterRunIsAPart.tab7 railplanlaw6_DynamicsShorterRunIsAPart.bits7 (fun HT_ HW_ => ?_)
        generalize w28.drew = w29 at HO190 HO202 BK196 HB HR207 hHeld ⊢
        refine pure_ (i := 0) (N := some 49) (v := ?_) (a' := ?_) #[true, false, false, false, false, false, false, false, false, false, false] rfl rfl (any_of HT_.out (by kernel_rfl)) (fun _ _ _ h => h) (Or.inl ⟨by rfl, ?_⟩) ?_ ?_
        rotate_left
        · intro w'
          go_simp
          with_reducible rfl
        rotate_left
        · simp only [Act.put, List.setIfInBounds_toArray, List.set_cons_zero, List.set_cons_succ, i64_w, i32_w]
          rfl
        refine pure_ (i := 1) (N := some 50) (v := ?_) (a' := ?_) #[true, true, false, false, false, false, false, false, false, false, false] rfl rfl (any_of HT_.out (by kernel_rfl)) (fun _ _ _ h => h) (Or.inl ⟨by rfl, ?_⟩) ?_ ?_
        rotate_left
        · intro w'
          go_simp
          with_reducible rfl
        rotate_left
        · simp only [Act.put, List.setIfInBounds_toArray, List.set_cons_zero, List.set_cons_succ, i64_w, i32_w]
          rfl
        refine pure_ (i := 2) (N := some 51) (v := ?_) (a' := ?_) #[true, true, true, false, false, false, false, false, false, false, false] rfl rfl (any_of HT_.out (by kernel_rfl)) (fun _ _ _ h => h) (Or.inl ⟨by rfl, ?_⟩) ?_ ?_
        rotate_left
        · intro w'
          go_simp
          with_reducible rfl
        rotate_left
        · simp only [Act.put, List.setIfInBounds_toArray, List.set_cons_zero, List.set_cons_succ, i64_w, i32_w]
          rfl
        refine pure_ (i := 3) (N := some 52) (v := ?_) (a' := ?_) #[true, true, true, true, false, false, false, false, false, false, false] rfl rfl (any_of HT_.out (by kernel_rfl)) (fun _ _ _ h => h) (Or.inl ⟨by rfl, ?_⟩) ?_ ?_
        rotate_left
        · intro w'
          go_simp
          with_reducible rfl
        rotate_left
        · simp only [Act.put, List.setIfInBounds_toArray, List.set_cons_zero, List.set_cons_succ, i64_w, i32_w]
          rfl
        refine take_ (i := 4) (N := some 53) (v := ?_) (a' := ?_) #[true, true, true, true, true, false, false, false, false, false, false] rfl rfl (take_ofW HT_.out HW_.out (by kernel_rfl)) (fun _ _ _ h => h) (Or.inl ⟨by rfl, ?_⟩) hHeld ?_ ?_
        rotate_left
        · rintro w' ⟨s0, s1, s2, s3, s4⟩
          go_simp
          with_reducible rfl
        rotate_left
        · simp only [Act.put, List.setIfInBounds_toArray, List.set_cons_zero, List.set_cons_succ, i64_w, i32_w]
          rfl
        refine one_ (i := 5) (N := some 54) #[true, true, true, true, true, true, false, false, false, false, false] rfl rfl (one_of HT_.out (by kernel_rfl)) (by decide) (fun K hK => ?_)
        refine goes_ Try.func19 (by kernel_rfl) rfl #[.slice Ao27 y204.length co27, .int .i64 t198, .agg #[.string t191, .int .i64 t192, .int .i64 t193, .int .i64 t194, .int .i64 t195]] (by rfl) rfl rfl (by (try simp only [List.map_toArray, List.map_cons, List.map_nil]); first | done | rfl | (simp only [List.length_drop, List.length_take]; rfl)) ?_
        with_reducible refine (dynamics_Times.calls k _ _ y204 t198 t191 t192 t193 t194 t195 t208 t211 _ ?side1 ?side2 A21.out).mono ?_
        (case side1 => repeat (first | exact (by repeat (first | (with_reducible exact HR207.out) | (with_reducible refine Kd.C_alloc ?_ _) | (with_reducible refine Kd.C_drewN ?_ _) | (with_reducible refine Kd.C_drew ?_) | exact HR207.out)) | (with_reducible refine Kd.C_alloc ?_ _) | (with_reducible refine Kd.C_drewN ?_ _) | (with_reducible refine Kd.C_drew ?_)))
        (case side2 => exact HC207.out)
        rintro e w31 ⟨v209, rfl, ho0, hb⟩
        refine ⟨_, rfl, ?_⟩
        have n0_ := Aside0.mk (Kd.R_below (by (with_reducible repeat (first | apply Kd.R_alloc | apply Kd.R_drewN | apply Kd.R_drew)); exact HO190.out) hb)
        have n1_ := Aside0.mk (Kd.R_elder' (by (with_reducible repeat (first | apply Kd.R_alloc | apply Kd.R_drewN | apply Kd.R_drew)); exact HO202.out) (Kd.R_base ho0) hb)
        have n2_ := Aside0.mk (Kd.R_lower (Kd.R_new' ho0 (Kd.R_lt (by (with_reducible repeat (first | apply Kd.R_alloc | apply Kd.R_drewN | apply Kd.R_drew)); exact HO202.out))) (below_size (by repeat (first | (with_reducible first | exact HB.out | apply below_alloc | apply pw_below_drewN | apply below_drew1 | refine below_set ?_ GE196.out) | exact HB.out))))
        have n3_ := Aside0.mk (blk_below (g := gb196) (o := .cells #[.string t191, .int .i64 t192, .int .i64 t193, .int .i64 t194, .int .i64 t195] 26 (0, 0)) (by (with_reducible repeat (first | refine blk_drewN ?_ _ | refine blk_drew ?_ | refine blk_alloc ?_ _)); exact BK196.out) hb)
        have n4_ := Aside0.mk (Kd.C_below (by repeat (first | (with_reducible exact HR207.out) | (with_reducible refine Kd.C_alloc ?_ _) | (with_reducible refine Kd.C_drewN ?_ _) | (with_reducible refine Kd.C_drew ?_) | exact HR207.out)) hb)
        have n5_ := Aside0.mk (below_step (by repeat (first | (with_reducible first | exact HB.out | apply below_alloc | apply pw_below_drewN | apply below_drew1 | refine below_set ?_ GE196.out) | exact HB.out)) hb)
        clear HO190
        clear HO202
        clear BK196
        clear HR207
        clear HB
        have HO190 := n0_
        have HO202 := n1_
        have HO210 := n2_
        have BK196 := n3_
        have HR207 := n4_
        have HB := n5_
        clear n0_ n1_ n2_ n3_ n4_ n5_
        (try clear hb)
        (try clear hb2)
        (try clear hk)
        (try clear hi)
        (try clear ho0)
        refine hK.out _ _ ⟨(blk_cell BK196.out 0).trans rfl, (blk_cell BK196.out 1).trans rfl, (blk_cell BK196.out 2).trans rfl, (blk_cell BK196.out 3).trans rfl, (blk_cell BK196.out 4).trans rfl⟩ (fun hHeld => ?_)
        clear hK K
        refine norm_ (a' := ?_) ?_ ?_
        rotate_left
        · show Act.put _ (some 54) _ = _
          simp only [Act.put, List.setIfInBounds_toArray, List.set_cons_zero, List.set_cons_succ, i64_w, i32_w]
          rfl
        refine pure_ (i := 6) (N := some 48) (v := ?_) (a' := ?_) #[true, true, true, true, true, true, true, false, false, false, false] rfl rfl (any_of HT_.out (by kernel_rfl)) (fun _ _ _ h => h) (Or.inl ⟨by rfl, ?_⟩) ?_ ?_
        rotate_left
        · intro w'
          go_simp
          with_reducible rfl
        rotate_left
        · simp only [Act.put, List.setIfInBounds_toArray, List.set_cons_zero, List.set_cons_succ, i64_w, i32_w]
          rfl
        refine pure_ (i := 7) (N := some 55) (v := ?_) (a' := ?_) #[true, true, true, true, true, true, true, true, false, false, false] rfl rfl (any_of HT_.out (by kernel_rfl)) (fun _ _ _ h => h) (Or.inl ⟨by rfl, ?_⟩) ?_ ?_
        rotate_left
        · intro w'
          go_simp
          with_reducible rfl
        rotate_left
        · simp only [Act.put, List.setIfInBounds_toArray, List.set_cons_zero, List.set_cons_succ, i64_w, i32_w]
          rfl
        refine pure_ (i := 8) (N := some 56) (v := ?_) (a' := ?_) #[true, true, true, true, true, true, true, true, true, false, false] rfl rfl (any_of HT_.out (by kernel_rfl)) (fun _ _ _ h => h) (Or.inl ⟨by rfl, ?_⟩) ?_ ?_
        rotate_left
        · intro w'
          go_simp
          with_reducible rfl
        rotate_left
        · simp only [Act.put, List.setIfInBounds_toArray, List.set_cons_zero, List.set_cons_succ, i64_w, i32_w]
          rfl
        refine pure_ (i := 9) (N := some 14) (v := ?_) (a' := ?_) #[true, true, true, true, true, true, true, true, true, true, false] rfl rfl (any_of HT_.out (by kernel_rfl)) (fun _ _ _ h => h) (Or.inl ⟨by rfl, ?_⟩) ?_ ?_
        rotate_left
        · intro w'
          go_simp
          with_reducible rfl
        rotate_left
        · simp only [Act.put, List.setIfInBounds_toArray, List.set_cons_zero, List.set_cons_succ, i64_w, i32_w]
          rfl
        refine pure_ (i := 10) (N := some 15) (v := ?_) (a' := ?_) #[true, true, true, true, true, true, true, true, true, true, true] rfl rfl (any_of HT_.out (by kernel_rfl)) (fun _ _ _ h => h) (Or.inl ⟨by rfl, ?_⟩) ?_ ?_
        rotate_left
        · intro w'
          go_simp
          with_reducible rfl
        rotate_left
        · simp only [Act.put, List.setIfInBounds_toArray, List.set_cons_zero, List.set_cons_succ, i64_w, i32_w]
          rfl
        refine done_ (done_of HT_.out (by kernel_rfl)) ?_
        go_upto_region 8 with (fail)
        go_cut [78] (fun v78 wc => ∃ (kq : Nat) (x78_21 : Bool), v78 = .bool x78_21 ∧ Aside0 (railplanlaw6_DynamicsShorterRunIsAPart.j0 kq t200 t208 x78_21 = some r) ∧ Aside0 (kq ≤ k) ∧ Aside0 (Kd.R (Kd.int .i64) 3 wc w.heap.size (fun k_ => some k_ ≠ (v209 : Value).ownBlock) v201 t200) ∧ Aside0 (Kd.R (Kd.int .i64) 3 wc w.heap.size (fun k_ => some k_ ≠ (v201 : Value).ownBlock) v209 t208) ∧ Aside0 (wc.heap[gb196]? = some (.cells #[.string t191, .int .i64 t192, .int .i64 t193, .int .i64 t194, .int .i64 t195] 26 (0, 0))) ∧ Aside0 (Kd.C k34 wc Ao27 y204.length y204) ∧ Aside0 (Below w.heap.size w wc))
        case first =>
          have H := HC22.out
          clear HC22
          by_cases c32 : t203 = 0
          · rw [if_pos c32] at H
            have c32b0 : (t203 == 0) = true := beq_iff_eq.mpr c32
            have c32b1 : (t203 != 0) = false := bne_eq_false_iff_eq.mpr c32
            clear c32
            (first | rw [c32b0] | (simp only [i64_w, i32_w]; rw [c32b0]) | skip)
            by_cases c33 : t211 = 0
            · rw [if_pos c33] at H
              have c33b0 : (t211 == 0) = true := beq_iff_eq.mpr c33
              have c33b1 : (t211 != 0) = false := bne_eq_false_iff_eq.mpr c33
              clear c33
              by_cases c34 : (t208.length : Int) = (wrap64 ((wrap64 ((ji18) - t198)) + 1))
              · rw [if_pos c34] at H
                have c34b0 : ((t208.length : Int) == (wrap64 ((wrap64 ((ji18) - t198)) + 1))) = true := beq_iff_eq.mpr c34
                have c34b1 : ((t208.length : Int) != (wrap64 ((wrap64 ((ji18) - t198)) + 1))) = false := bne_eq_false_iff_eq.mpr c34
                clear c34
                have H' := Aside0.mk H
                clear H
                obtain ⟨Ao35, co35, eo35⟩ := Kd.R_slice HO210.out
                subst eo35
                obtain ⟨Ao36, co36, eo36⟩ := Kd.R_slice HO202.out
                subst eo36
                go_wp2
                go_meet
                case rel => exact ⟨_, (decide ((t200.length : Int) ≤ (t208.length : Int))), (by first | rfl | (simp; done) | (simp [*]; done)), H', ⟨by first | omega | exact Nat.le_refl _⟩, ⟨by (with_reducible repeat (first | apply Kd.R_alloc | apply Kd.R_drewN | apply Kd.R_drew)); exact Kd.R_mono HO202.out (fun _ hk => hk.2)⟩, ⟨by (with_reducible repeat (first | apply Kd.R_alloc | apply Kd.R_drewN | apply Kd.R_drew)); exact Kd.R_mono HO210.out (fun _ hk => hk.2)⟩, ⟨by (with_reducible repeat (first | refine blk_drewN ?_ _ | refine blk_drew ?_ | refine blk_alloc ?_ _)); exact BK196.out⟩, ⟨by repeat (first | (with_reducible exact HR207.out) | (with_reducible refine Kd.C_alloc ?_ _) | (with_reducible refine Kd.C_drewN ?_ _) | (with_reducible refine Kd.C_drew ?_) | exact HR207.out)⟩, ⟨by repeat (first | (with_reducible first | exact HB.out | apply below_alloc | apply pw_below_drewN | apply below_drew1 | refine below_set ?_ GE196.out) | exact HB.out)⟩⟩
              · rw [if_neg c34] at H
                have c34b0 : ((t208.length : Int) == (wrap64 ((wrap64 ((ji18) - t198)) + 1))) = false := beq_eq_false_iff_ne.mpr c34
                have c34b1 : ((t208.length : Int) != (wrap64 ((wrap64 ((ji18) - t198)) + 1))) = true := bne_iff_ne.mpr c34
                have H' := Aside0.mk H
                clear H
                obtain ⟨Ao37, co37, eo37⟩ := Kd.R_slice HO210.out
                subst eo37
                go_wp2
                go_meet
                case rel => exact ⟨_, (true), (by first | rfl | (simp; done) | (simp [*]; done)), H', ⟨by first | omega | exact Nat.le_refl _⟩, ⟨by (with_reducible repeat (first | apply Kd.R_alloc | apply Kd.R_drewN | apply Kd.R_drew)); exact Kd.R_mono HO202.out (fun _ hk => hk.2)⟩, ⟨by (with_reducible repeat (first | apply Kd.R_alloc | apply Kd.R_drewN | apply Kd.R_drew)); exact Kd.R_mono HO210.out (fun _ hk => hk.2)⟩, ⟨by (with_reducible repeat (first | refine blk_drewN ?_ _ | refine blk_drew ?_ | refine blk_alloc ?_ _)); exact BK196.out⟩, ⟨by repeat (first | (with_reducible exact HR207.out) | (with_reducible refine Kd.C_alloc ?_ _) | (with_reducible refine Kd.C_drewN ?_ _) | (with_reducible refine Kd.C_drew ?_) | exact HR207.out)⟩, ⟨by repeat (first | (with_reducible first | exact HB.out | apply below_alloc | apply pw_below_drewN | apply below_drew1 | refine below_set ?_ GE196.out) | exact HB.out)⟩⟩
            · rw [if_neg c33] at H
              have c33b0 : (t211 == 0) = false := beq_eq_false_iff_ne.mpr c33
              have c33b1 : (t211 != 0) = true := bne_iff_ne.mpr c33
              have H' := Aside0.mk H
              clear H
              go_wp2
              go_meet
              case rel => exact ⟨_, (true), (by first | rfl | (simp; done) | (simp [*]; done)), H', ⟨by first | omega | exact Nat.le_refl _⟩, ⟨by (with_reducible repeat (first | apply Kd.R_alloc | apply Kd.R_drewN | apply Kd.R_drew)); exact Kd.R_mono HO202.out (fun _ hk => hk.2)⟩, ⟨by (with_reducible repeat (first | apply Kd.R_alloc | apply Kd.R_drewN | apply Kd.R_drew)); exact Kd.R_mono HO210.out (fun _ hk => hk.2)⟩, ⟨by (with_reducible repeat (first | refine blk_drewN ?_ _ | refine blk_drew ?_ | refine blk_alloc ?_ _)); exact BK196.out⟩, ⟨by repeat (first | (with_reducible exact HR207.out) | (with_reducible refine Kd.C_alloc ?_ _) | (with_reducible refine Kd.C_drewN ?_ _) | (with_reducible refine Kd.C_drew ?_) | exact HR207.out)⟩, ⟨by repeat (first | (with_reducible first | exact HB.out | apply below_alloc | apply pw_below_drewN | apply below_drew1 | refine below_set ?_ GE196.out) | exact HB.out)⟩⟩
          · rw [if_neg c32] at H
            have c32b0 : (t203 == 0) = false := beq_eq_false_iff_ne.mpr c32
            have c32b1 : (t203 != 0) = true := bne_iff_ne.mpr c32
            (first | rw [c32b0] | (simp only [i64_w, i32_w]; rw [c32b0]) | skip)
            have H' := Aside0.mk H
            clear H
            go_wp2
            go_meet
            case rel => exact ⟨_, (true), (by first | rfl | (simp; done) | (simp [*]; done)), H', ⟨by first | omega | exact Nat.le_refl _⟩, ⟨by (with_reducible repeat (first | apply Kd.R_alloc | apply Kd.R_drewN | apply Kd.R_drew)); exact Kd.R_mono HO202.out (fun _ hk => hk.2)⟩, ⟨by (with_reducible repeat (first | apply Kd.R_alloc | apply Kd.R_drewN | apply Kd.R_drew)); exact Kd.R_mono HO210.out (fun _ hk => hk.2)⟩, ⟨by (with_reducible repeat (first | refine blk_drewN ?_ _ | refine blk_drew ?_ | refine blk_alloc ?_ _)); exact BK196.out⟩, ⟨by repeat (first | (with_reducible exact HR207.out) | (with_reducible refine Kd.C_alloc ?_ _) | (with_reducible refine Kd.C_drewN ?_ _) | (with_reducible refine Kd.C_drew ?_) | exact HR207.out)⟩, ⟨by repeat (first | (with_reducible first | exact HB.out | apply below_alloc | apply pw_below_drewN | apply below_drew1 | refine below_set ?_ GE196.out) | exact HB.out)⟩⟩
        case rest =>
          clear HC22
          try clear c1
          try clear c2
          try clear p2
          try clear c3
          try clear q3
          try clear p6
          try clear c7
          try clear c7b0
          try clear c7b1
          try clear c13
          try clear c14
          try clear c15
          try clear c16
          try clear c19
          try clear c19b0
          try clear c19b1
          try clear c20
          try clear c20b0
          try clear c20b1
          try clear q30
          try clear c32
          try clear c32b0
          try clear c32b1
          try clear c33
          try clear c33b0
          try clear c33b1
          try clear c34
          try clear c34b0
          try clear c34b1
          try clear hcz12_0
          try clear hcz12_1
          try clear hcz12_2
          try clear hcz12_3
          try clear hcz12_4
          try clear hcz26_0
          try clear hcz26_1
          try clear hcz26_2
          try clear hcz26_3
          try clear hcz26_4
          try clear hfz12_0
          try clear hfz12_1
          try clear hfz12_2
          try clear hfz12_3
          try clear hfz12_4
          try clear hfz26_0
          try clear hfz26_1
          try clear hfz26_2
          try clear hfz26_3
          try clear hfz26_4
          try clear q30
          obtain ⟨kq, x78_21, rfl, HA, HJ21, HO_12, HO_14, BK196, HR207, HB⟩ := hcut
          cases kq with
          | zero => exact absurd HA.out (by simp [railplanlaw6_DynamicsShorterRunIsAPart.j0])
          | succ kj21 =>
            have H := HA.out
            clear HA
            simp only [railplanlaw6_DynamicsShorterRunIsAPart.j0] at H
            by_cases c38 : x78_21 = true
            · subst c38
              have H1 : (some false) = some r := by rw [if_pos rfl] at H; exact H
              clear H
              have H := H1
              clear H1
              obtain rfl := Option.some.inj H
              go_wp2
              go_ret
              exact ⟨by first | rfl | (simp [errW_none, errW_some] <;> rfl) | (simp only [← hji18]; first | rfl | (simp [errW_none, errW_some] <;> rfl)) | (simp [*, errW_none, errW_some] <;> rfl), by repeat (first | (with_reducible first | exact HB.out | apply below_alloc | apply pw_below_drewN | apply below_drew1 | refine below_set ?_ GE196.out) | exact HB.out)⟩
            · replace c38 := Bool.eq_false_iff.mpr c38
              subst c38
              have H1 : (railplanlaw6_DynamicsShorterRunIsAPart.l0 kj21 t200 t208 (t208.length : Int) 0) = some r := by rw [if_neg (show ¬ (false = true) by decide)] at H; exact H
              clear H
              have H := H1
              clear H1
              have H' := Aside0.mk H
              clear H
              obtain ⟨Ao39, co39, eo39⟩ := Kd.R_slice HO_14.out
              subst eo39
              go_wp2
              go_loopg [81] kj21 (fun kq v81 w' => ∃ (x81_2 : Int), v81 = .int .i64 x81_2 ∧ Aside0 (railplanlaw6_DynamicsShorterRunIsAPart.l0 kq t200 t208 (t208.length : Int) x81_2 = some r) ∧ Aside0 (kq ≤ kj21) ∧ Aside0 (Kd.R (Kd.int .i64) 3 w' w.heap.size (fun k_ => some k_ ≠ ((.slice Ao39 t208.length co39) : Value).ownBlock) v201 t200) ∧ Aside0 (Kd.R (Kd.int .i64) 3 w' w.heap.size (fun k_ => some k_ ≠ (v201 : Value).ownBlock) (.slice Ao39 t208.length co39) t208) ∧ Aside0 (w'.heap[gb196]? = some (.cells #[.string t191, .int .i64 t192, .int .i64 t193, .int .i64 t194, .int .i64 t195] 26 (0, 0))) ∧ Aside0 (Kd.C k34 w' Ao27 y204.length y204) ∧ Aside0 (Below w.heap.size w w'))
              case atStart => exact ⟨(0), (by first | rfl | (simp; done) | (simp [*]; done)), H', ⟨Nat.le_refl _⟩, ⟨by (with_reducible repeat (first | apply Kd.R_alloc | apply Kd.R_drewN | apply Kd.R_drew)); exact HO_12.out⟩, ⟨by (with_reducible repeat (first | apply Kd.R_alloc | apply Kd.R_drewN | apply Kd.R_drew)); exact HO_14.out⟩, ⟨by (with_reducible repeat (first | refine blk_drewN ?_ _ | refine blk_drew ?_ | refine blk_alloc ?_ _)); exact BK196.out⟩, ⟨by repeat (first | (with_reducible exact HR207.out) | (with_reducible refine Kd.C_alloc ?_ _) | (with_reducible refine Kd.C_drewN ?_ _) | (with_reducible refine Kd.C_drew ?_) | exact HR207.out)⟩, ⟨by repeat (first | (with_reducible first | exact HB.out | apply below_alloc | apply pw_below_drewN | apply below_drew1 | refine below_set ?_ GE196.out) | exact HB.out)⟩⟩
              case round =>
                clear H'
                try clear c1
                try clear c2
                try clear p2
                try clear c3
                try clear q3
                try clear p6
                try clear c7
                try clear c7b0
                try clear c7b1
                try clear c13
                try clear c14
                try clear c15
                try clear c16
                try clear c19
                try clear c19b0
                try clear c19b1
                try clear c20
                try clear c20b0
                try clear c20b1
                try clear q30
                try clear c32
                try clear c32b0
                try clear c32b1
                try clear c33
                try clear c33b0
                try clear c33b1
                try clear c34
                try clear c34b0
                try clear c34b1
                try clear c38
                try clear hcz12_0
                try clear hcz12_1
                try clear hcz12_2
                try clear hcz12_3
                try clear hcz12_4
                try clear hcz26_0
                try clear hcz26_1
                try clear hcz26_2
                try clear hcz26_3
                try clear hcz26_4
                try clear hfz12_0
                try clear hfz12_1
                try clear hfz12_2
                try clear hfz12_3
                try clear hfz12_4
                try clear hfz26_0
                try clear hfz26_1
                try clear hfz26_2
                try clear hfz26_3
                try clear hfz26_4
                try clear p2
                try clear p6
                try clear q3
                try clear q30
                obtain ⟨x81_2, rfl, HA, HK2, HO_12, HO_14, BK196, HR207, HB⟩ := hrel
                cases gk with
                | zero => exact absurd HA.out (by simp [railplanlaw6_DynamicsShorterRunIsAPart.l0])
                | succ k2 =>
                  have H := HA.out
                  clear HA
                  simp only [railplanlaw6_DynamicsShorterRunIsAPart.l0] at H
                  by_cases c40 : x81_2 < (t208.length : Int)
                  · rw [if_pos c40] at H
                    have c40b0 : decide (x81_2 < (t208.length : Int)) = true := decide_eq_true c40
                    clear c40
                    by_cases c41 : 0 ≤ x81_2
                    · rw [if_pos c41] at H
                      have c41b0 : decide (0 ≤ x81_2) = true := decide_eq_true c41
                      clear c41
                      by_cases c42 : x81_2 < (t208.length : Int)
                      · rw [if_pos c42] at H
                        have c42b0 : decide (x81_2 < (t208.length : Int)) = true := decide_eq_true c42
                        clear c42
                        by_cases c43 : x81_2 < (t200.length : Int)
                        · rw [if_pos c43] at H
                          have c43b0 : decide (x81_2 < (t200.length : Int)) = true := decide_eq_true c43
                          clear c43
                          by_cases c44 : (rd t208 x81_2) < (rd t200 x81_2)
                          · rw [if_pos c44] at H
                            have c44b0 : decide ((rd t208 x81_2) < (rd t200 x81_2)) = true := decide_eq_true c44
                            clear c44
                            obtain rfl := Option.some.inj H
                            try go_wp2
                            have n0_ := Aside0.mk (Kd.R_drew HO_12.out)
                            have n1_ := Aside0.mk (Kd.R_drew HO_14.out)
                            have n2_ := Aside0.mk (blk_drew BK196.out)
                            have n3_ := Aside0.mk (Kd.C_drew HR207.out)
                            have n4_ := Aside0.mk (below_drew1 HB.out)
                            clear HO_12
                            clear HO_14
                            clear BK196
                            clear HR207
                            clear HB
                            have HO_12 := n0_
                            have HO_14 := n1_
                            have BK196 := n2_
                            have HR207 := n3_
                            have HB := n4_
                            clear n0_ n1_ n2_ n3_ n4_
                            have p212 : 0 ≤ (x81_2 : Int) := of_decide_eq_true (by first | (with_reducible assumption) | assumption)
                            have q212 : x81_2 < (t208.length : Int) := of_decide_eq_true (by first | (with_reducible assumption) | assumption)
                            obtain ⟨ad212, e212, hx212_0⟩ := Kd.at_int (Kd.R_reads' HO_14.out).2.2 x81_2 p212 q212
                            cases e212
                            replace p212 := eq_true p212
                            replace q212 := eq_true q212
                            obtain ⟨Ao46, co46, eo46⟩ := Kd.R_slice HO_12.out
                            (first | subst eo46 | (injection eo46 with f1_ f2_ f3_; have f4_ := f1_.symm; have f5_ := f3_.symm; clear f1_ f2_ f3_; subst f4_; subst f5_))
                            have p213 : 0 ≤ (x81_2 : Int) := of_decide_eq_true (by first | (with_reducible assumption) | assumption)
                            have q213 : x81_2 < (t200.length : Int) := of_decide_eq_true (by first | (with_reducible assumption) | assumption)
                            obtain ⟨ad213, e213, hx213_0⟩ := Kd.at_int (Kd.R_reads' HO_12.out).2.2 x81_2 p213 q213
                            cases e213
                            replace p213 := eq_true p213
                            replace q213 := eq_true q213
                            refine start_ (n := 9) (S := fun w' => w'.cell? (ad212.add (x81_2).toNat) = some (.int .i64 (rd t208 x81_2)) ∧ w'.cell? (ad213.add (x81_2).toNat) = some (.int .i64 (rd t200 x81_2))) (ds := []) #[false, false, false, false, false, false, false, false, false] (by kernel_rfl) rfl rfl ⟨hx212_0, hx213_0⟩ (fun hHeld => ?_); refine with_tabW railplanlaw6_DynamicsShorterRunIsAPart.tab13 railplanlaw6_DynamicsShorterRunIsAPart.bits13 (fun HT_ HW_ => ?_)
                            generalize wr.drew = w45 at HO_12 HO_14 BK196 HR207 HB hx212_0 hx213_0 hHeld ⊢
                            refine pure_ (i := 0) (N := some 84) (v := ?_) (a' := ?_) #[true, false, false, false, false, false, false, false, false] rfl rfl (any_of HT_.out (by kernel_rfl)) (fun _ _ _ h => h) (Or.inl ⟨by rfl, ?_⟩) ?_ ?_
                            rotate_left
                            · intro w'
                              go_simp
                              with_reducible rfl
                            rotate_left
                            · simp only [Act.put, List.setIfInBounds_toArray, List.set_cons_zero, List.set_cons_succ, i64_w, i32_w]
                              rfl
                            refine pure_ (i := 1) (N := some 85) (v := ?_) (a' := ?_) #[true, true, false, false, false, false, false, false, false] rfl rfl (any_of HT_.out (by kernel_rfl)) (fun _ _ _ h => h) (Or.inl ⟨by rfl, ?_⟩) ?_ ?_
                            rotate_left
                            · intro w'
                              go_simp
                              with_reducible rfl
                            rotate_left
                            · simp only [Act.put, List.setIfInBounds_toArray, List.set_cons_zero, List.set_cons_succ, i64_w, i32_w]
                              rfl
                            refine pure_ (i := 2) (N := some 86) (v := ?_) (a' := ?_) #[true, true, true, false, false, false, false, false, false] rfl rfl (any_of HT_.out (by kernel_rfl)) (fun _ _ _ h => h) (Or.inl ⟨by rfl, ?_⟩) ?_ ?_
                            rotate_left
                            · intro w'
                              go_simp
                              with_reducible rfl
                            rotate_left
                            · simp only [Act.put, List.setIfInBounds_toArray, List.set_cons_zero, List.set_cons_succ, i64_w, i32_w]
                              rfl
                            refine pure_ (i := 4) (N := some 88) (v := ?_) (a' := ?_) #[true, true, true, false, true, false, false, false, false] rfl rfl (any_of HT_.out (by kernel_rfl)) (fun _ _ _ h => h) (Or.inl ⟨by rfl, ?_⟩) ?_ ?_
                            rotate_left
                            · intro w'
                              go_simp
                              with_reducible rfl
                            rotate_left
                            · simp only [Act.put, List.setIfInBounds_toArray, List.set_cons_zero, List.set_cons_succ, i64_w, i32_w]
                              rfl
                            refine pure_ (i := 5) (N := some 89) (v := ?_) (a' := ?_) #[true, true, true, false, true, true, false, false, false] rfl rfl (any_of HT_.out (by kernel_rfl)) (fun _ _ _ h => h) (Or.inl ⟨by rfl, ?_⟩) ?_ ?_
                            rotate_left
                            · intro w'
                              go_simp
                              with_reducible rfl
                            rotate_left
                            · simp only [Act.put, List.setIfInBounds_toArray, List.set_cons_zero, List.set_cons_succ, i64_w, i32_w]
                              rfl
                            refine pure_ (i := 6) (N := some 90) (v := ?_) (a' := ?_) #[true, true, true, false, true, true, true, false, false] rfl rfl (any_of HT_.out (by kernel_rfl)) (fun _ _ _ h => h) (Or.inl ⟨by rfl, ?_⟩) ?_ ?_
                            rotate_left
                            · intro w'
                              go_simp
                              with_reducible rfl
                            rotate_left
                            · simp only [Act.put, List.setIfInBounds_toArray, List.set_cons_zero, List.set_cons_succ, i64_w, i32_w]
                              rfl
                            refine take_ (i := 3) (N := some 87) (v := ?_) (a' := ?_) #[true, true, true, true, true, true, true, false, false] rfl rfl (take_ofW HT_.out HW_.out (by kernel_rfl)) (fun _ _ _ h => h) (Or.inl ⟨by rfl, ?_⟩) hHeld ?_ ?_
                            rotate_left
                            · rintro w' ⟨s0, s1⟩
                              go_simp
                              with_reducible rfl
                            rotate_left
                            · simp only [Act.put, List.setIfInBounds_toArray, List.set_cons_zero, List.set_cons_succ, i64_w, i32_w]
                              rfl
                            refine take_ (i := 7) (N := some 91) (v := ?_) (a' := ?_) #[true, true, true, true, true, true, true, true, false] rfl rfl (take_ofW HT_.out HW_.out (by kernel_rfl)) (fun _ _ _ h => h) (Or.inl ⟨by rfl, ?_⟩) hHeld ?_ ?_
                            rotate_left
                            · rintro w' ⟨s0, s1⟩
                              go_simp
                              with_reducible rfl
                            rotate_left
                            · simp only [Act.put, List.setIfInBounds_toArray, List.set_cons_zero, List.set_cons_succ, i64_w, i32_w]
                              rfl
                            refine pure_ (i := 8) (N := some 92) (v := ?_) (a' := ?_) #[true, true, true, true, true, true, true, true, true] rfl rfl (any_of HT_.out (by kernel_rfl)) (fun _ _ _ h => h) (Or.inl ⟨by rfl, ?_⟩) ?_ ?_
                            rotate_left
                            · intro w'
                              go_simp
                              with_reducible rfl
                            rotate_left
                            · simp only [Act.put, List.setIfInBounds_toArray, List.set_cons_zero, List.set_cons_succ, i64_w, i32_w]
                              rfl
                            refine done_ (done_of HT_.out (by kernel_rfl)) ?_
                            try go_wp2
                            go_ret
                            exact ⟨by first | rfl | (simp [errW_none, errW_some] <;> rfl) | (simp only [← hji18]; first | rfl | (simp [errW_none, errW_some] <;> rfl)) | (simp [*, errW_none, errW_some] <;> rfl), by repeat (first | (with_reducible first | exact HB.out | apply below_alloc | apply pw_below_drewN | apply below_drew1 | refine below_set ?_ GE196.out) | exact HB.out)⟩
                          · rw [if_neg c44] at H
                            have c44b0 : decide ((rd t208 x81_2) < (rd t200 x81_2)) = false := decide_eq_false c44
                            clear c44
                            have H' := Aside0.mk H
                            clear H
                            try go_wp2
                            have n0_ := Aside0.mk (Kd.R_drew HO_12.out)
                            have n1_ := Aside0.mk (Kd.R_drew HO_14.out)
                            have n2_ := Aside0.mk (blk_drew BK196.out)
                            have n3_ := Aside0.mk (Kd.C_drew HR207.out)
                            have n4_ := Aside0.mk (below_drew1 HB.out)
                            clear HO_12
                            clear HO_14
                            clear BK196
                            clear HR207
                            clear HB
                            have HO_12 := n0_
                            have HO_14 := n1_
                            have BK196 := n2_
                            have HR207 := n3_
                            have HB := n4_
                            clear n0_ n1_ n2_ n3_ n4_
                            have p212 : 0 ≤ (x81_2 : Int) := of_decide_eq_true (by first | (with_reducible assumption) | assumption)
                            have q212 : x81_2 < (t208.length : Int) := of_decide_eq_true (by first | (with_reducible assumption) | assumption)
                            obtain ⟨ad212, e212, hx212_0⟩ := Kd.at_int (Kd.R_reads' HO_14.out).2.2 x81_2 p212 q212
                            cases e212
                            replace p212 := eq_true p212
                            replace q212 := eq_true q212
                            obtain ⟨Ao48, co48, eo48⟩ := Kd.R_slice HO_12.out
                            (first | subst eo48 | (injection eo48 with f1_ f2_ f3_; have f4_ := f1_.symm; have f5_ := f3_.symm; clear f1_ f2_ f3_; subst f4_; subst f5_))
                            have p213 : 0 ≤ (x81_2 : Int) := of_decide_eq_true (by first | (with_reducible assumption) | assumption)
                            have q213 : x81_2 < (t200.length : Int) := of_decide_eq_true (by first | (with_reducible assumption) | assumption)
                            obtain ⟨ad213, e213, hx213_0⟩ := Kd.at_int (Kd.R_reads' HO_12.out).2.2 x81_2 p213 q213
                            cases e213
                            replace p213 := eq_true p213
                            replace q213 := eq_true q213
                            refine start_ (n := 9) (S := fun w' => w'.cell? (ad212.add (x81_2).toNat) = some (.int .i64 (rd t208 x81_2)) ∧ w'.cell? (ad213.add (x81_2).toNat) = some (.int .i64 (rd t200 x81_2))) (ds := []) #[false, false, false, false, false, false, false, false, false] (by kernel_rfl) rfl rfl ⟨hx212_0, hx213_0⟩ (fun hHeld => ?_); refine with_tabW railplanlaw6_DynamicsShorterRunIsAPart.tab13 railplanlaw6_DynamicsShorterRunIsAPart.bits13 (fun HT_ HW_ => ?_)
                            generalize wr.drew = w47 at HO_12 HO_14 BK196 HR207 HB hx212_0 hx213_0 hHeld ⊢
                            refine pure_ (i := 0) (N := some 84) (v := ?_) (a' := ?_) #[true, false, false, false, false, false, false, false, false] rfl rfl (any_of HT_.out (by kernel_rfl)) (fun _ _ _ h => h) (Or.inl ⟨by rfl, ?_⟩) ?_ ?_
                            rotate_left
                            · intro w'
                              go_simp
                              with_reducible rfl
                            rotate_left
                            · simp only [Act.put, List.setIfInBounds_toArray, List.set_cons_zero, List.set_cons_succ, i64_w, i32_w]
                              rfl
                            refine pure_ (i := 1) (N := some 85) (v := ?_) (a' := ?_) #[true, true, false, false, false, false, false, false, false] rfl rfl (any_of HT_.out (by kernel_rfl)) (fun _ _ _ h => h) (Or.inl ⟨by rfl, ?_⟩) ?_ ?_
                            rotate_left
                            · intro w'
                              go_simp
                              with_reducible rfl
                            rotate_left
                            · simp only [Act.put, List.setIfInBounds_toArray, List.set_cons_zero, List.set_cons_succ, i64_w, i32_w]
                              rfl
                            refine pure_ (i := 2) (N := some 86) (v := ?_) (a' := ?_) #[true, true, true, false, false, false, false, false, false] rfl rfl (any_of HT_.out (by kernel_rfl)) (fun _ _ _ h => h) (Or.inl ⟨by rfl, ?_⟩) ?_ ?_
                            rotate_left
                            · intro w'
                              go_simp
                              with_reducible rfl
                            rotate_left
                            · simp only [Act.put, List.setIfInBounds_toArray, List.set_cons_zero, List.set_cons_succ, i64_w, i32_w]
                              rfl
                            refine pure_ (i := 4) (N := some 88) (v := ?_) (a' := ?_) #[true, true, true, false, true, false, false, false, false] rfl rfl (any_of HT_.out (by kernel_rfl)) (fun _ _ _ h => h) (Or.inl ⟨by rfl, ?_⟩) ?_ ?_
                            rotate_left
                            · intro w'
                              go_simp
                              with_reducible rfl
                            rotate_left
                            · simp only [Act.put, List.setIfInBounds_toArray, List.set_cons_zero, List.set_cons_succ, i64_w, i32_w]
                              rfl
                            refine pure_ (i := 5) (N := some 89) (v := ?_) (a' := ?_) #[true, true, true, false, true, true, false, false, false] rfl rfl (any_of HT_.out (by kernel_rfl)) (fun _ _ _ h => h) (Or.inl ⟨by rfl, ?_⟩) ?_ ?_
                            rotate_left
                            · intro w'
                              go_simp
                              with_reducible rfl
                            rotate_left
                            · simp only [Act.put, List.setIfInBounds_toArray, List.set_cons_zero, List.set_cons_succ, i64_w, i32_w]
                              rfl
                            refine pure_ (i := 6) (N := some 90) (v := ?_) (a' := ?_) #[true, true, true, false, true, true, true, false, false] rfl rfl (any_of HT_.out (by kernel_rfl)) (fun _ _ _ h => h) (Or.inl ⟨by rfl, ?_⟩) ?_ ?_
                            rotate_left
                            · intro w'
                              go_simp
                              with_reducible rfl
                            rotate_left
                            · simp only [Act.put, List.setIfInBounds_toArray, List.set_cons_zero, List.set_cons_succ, i64_w, i32_w]
                              rfl
                            refine take_ (i := 3) (N := some 87) (v := ?_) (a' := ?_) #[true, true, true, true, true, true, true, false, false] rfl rfl (take_ofW HT_.out HW_.out (by kernel_rfl)) (fun _ _ _ h => h) (Or.inl ⟨by rfl, ?_⟩) hHeld ?_ ?_
                            rotate_left
                            · rintro w' ⟨s0, s1⟩
                              go_simp
                              with_reducible rfl
                            rotate_left
                            · simp only [Act.put, List.setIfInBounds_toArray, List.set_cons_zero, List.set_cons_succ, i64_w, i32_w]
                              rfl
                            refine take_ (i := 7) (N := some 91) (v := ?_) (a' := ?_) #[true, true, true, true, true, true, true, true, false] rfl rfl (take_ofW HT_.out HW_.out (by kernel_rfl)) (fun _ _ _ h => h) (Or.inl ⟨by rfl, ?_⟩) hHeld ?_ ?_
                            rotate_left
                            · rintro w' ⟨s0, s1⟩
                              go_simp
                              with_reducible rfl
                            rotate_left
                            · simp only [Act.put, List.setIfInBounds_toArray, List.set_cons_zero, List.set_cons_succ, i64_w, i32_w]
                              rfl
                            refine pure_ (i := 8) (N := some 92) (v := ?_) (a' := ?_) #[true, true, true, true, true, true, true, true, true] rfl rfl (any_of HT_.out (by kernel_rfl)) (fun _ _ _ h => h) (Or.inl ⟨by rfl, ?_⟩) ?_ ?_
                            rotate_left
                            · intro w'
                              go_simp
                              with_reducible rfl
                            rotate_left
                            · simp only [Act.put, List.setIfInBounds_toArray, List.set_cons_zero, List.set_cons_succ, i64_w, i32_w]
                              rfl
                            refine done_ (done_of HT_.out (by kernel_rfl)) ?_
                            try go_wp2
                            go_roundg k2
                            case measure => have := HJ21.out; have := HK2.out; omega
                            case rel => exact ⟨(wrap64 (x81_2 + 1)), (by first | rfl | (simp; done) | (simp [*]; done)), H', ⟨by have := HJ21.out; have := HK2.out; omega⟩, ⟨by (with_reducible repeat (first | apply Kd.R_alloc | apply Kd.R_drewN | apply Kd.R_drew)); exact HO_12.out⟩, ⟨by (with_reducible repeat (first | apply Kd.R_alloc | apply Kd.R_drewN | apply Kd.R_drew)); exact HO_14.out⟩, ⟨by (with_reducible repeat (first | refine blk_drewN ?_ _ | refine blk_drew ?_ | refine blk_alloc ?_ _)); exact BK196.out⟩, ⟨by repeat (first | (with_reducible exact HR207.out) | (with_reducible refine Kd.C_alloc ?_ _) | (with_reducible refine Kd.C_drewN ?_ _) | (with_reducible refine Kd.C_drew ?_) | exact HR207.out)⟩, ⟨by repeat (first | (with_reducible first | exact HB.out | apply below_alloc | apply pw_below_drewN | apply below_drew1 | refine below_set ?_ GE196.out) | exact HB.out)⟩⟩
                        · rw [if_neg c43] at H
                          exact absurd H (by simp)
                      · rw [if_neg c42] at H
                        exact absurd H (by simp)
                    · rw [if_neg c41] at H
                      exact absurd H (by simp)
                  · rw [if_neg c40] at H
                    have c40b0 : decide (x81_2 < (t208.length : Int)) = false := decide_eq_false c40
                    clear c40
                    obtain rfl := Option.some.inj H
                    go_wp2
                    go_ret
                    exact ⟨by first | rfl | (simp [errW_none, errW_some] <;> rfl) | (simp only [← hji18]; first | rfl | (simp [errW_none, errW_some] <;> rfl)) | (simp [*, errW_none, errW_some] <;> rfl), by repeat (first | (with_reducible first | exact HB.out | apply below_alloc | apply pw_below_drewN | apply below_drew1 | refine below_set ?_ GE196.out) | exact HB.out)⟩
      · rw [if_neg c20] at H
        exact absurd H (by simp)
    · rw [if_neg c19] at H
      exact absurd H (by simp)

/-- THE ONE PURE STATEMENT of railplanlaw6_DynamicsShorterRunIsAPart: yours. -/
def railplanlaw6_DynamicsShorterRunIsAPart.Pure : Prop := ∀ (l0 : List Int) (l1 : List Int) (a2 : Int) (a3 : Int), l0.length ≤ maxLen → l0.length * 8 ≤ 140737488351232 → (∀ x ∈ l0, (Lit.int .i64 x).wf = true) → l1.length ≤ maxLen → l1.length * 8 ≤ 140737488351232 → (∀ x ∈ l1, (Lit.int .i64 x).wf = true) → (Lit.int .i64 a2).wf = true → (Lit.int .i64 a3).wf = true → ∃ k, railplanlaw6_DynamicsShorterRunIsAPart.f k l0 l1 a2 a3 = some true
theorem railplanlaw6_DynamicsShorterRunIsAPart.walk (P : railplanlaw6_DynamicsShorterRunIsAPart.Pure) (a0 : Option Addr) (len0 cap0 : Nat) (z0 : List Int) (a1 : Option Addr) (len1 cap1 : Nat) (z1 : List Int) (a2 : Int) (a3 : Int) (w : World) (w0 : (a0 = none ∧ len0 = 0 ∧ cap0 = 0 ∧ z0 = []) ∨ ∃ x, a0 = some x ∧ len0 ≤ cap0 ∧ cap0 ≤ maxLen ∧ z0.length = cap0 ∧ (∀ i, i < z0.length → w.cell? (x.add i) = some (.int .i64 (z0.getD i 0))) ∧ ∀ n ∈ z0, (Lit.int .i64 n).wf = true) (y0 : len0 * 8 ≤ 140737488351232) (w1 : (a1 = none ∧ len1 = 0 ∧ cap1 = 0 ∧ z1 = []) ∨ ∃ x, a1 = some x ∧ len1 ≤ cap1 ∧ cap1 ≤ maxLen ∧ z1.length = cap1 ∧ (∀ i, i < z1.length → w.cell? (x.add i) = some (.int .i64 (z1.getD i 0))) ∧ ∀ n ∈ z1, (Lit.int .i64 n).wf = true) (y1 : len1 * 8 ≤ 140737488351232) (w2 : (Lit.int .i64 a2).wf = true) (w3 : (Lit.int .i64 a3).wf = true) :
    Calls Try.prog 7 #[.slice a0 len0 cap0, .slice a1 len1 cap1, .int .i64 a2, .int .i64 a3] w fun e w' => e = .returned (.bool true) ∧ Below w.heap.size w w' := by
  obtain ⟨l0, rfl, hr0, hm0, hw0, hc0⟩ := ReadsInt.ofRowC w0
  obtain ⟨l1, rfl, hr1, hm1, hw1, hc1⟩ := ReadsInt.ofRowC w1
  obtain ⟨k, h⟩ := P l0 l1 a2 a3 hm0 y0 hw0 hm1 y1 hw1 w2 w3
  refine (railplanlaw6_DynamicsShorterRunIsAPart.calls k _ _ l0 _ _ l1 a2 a3 true w (Kd.C_of_reads (d := (0 : Int)) (h1 := fun _ => rfl) hr0) hc0 (Kd.C_of_reads (d := (0 : Int)) (h1 := fun _ => rfl) hr1) hc1 h).mono ?_
  rintro e w' ⟨rfl, hd⟩
  exact ⟨rfl, hd⟩

end Go.Proofs.Ytfnpoalffpnllaa.XDynamicsShorterRunIsAPart
