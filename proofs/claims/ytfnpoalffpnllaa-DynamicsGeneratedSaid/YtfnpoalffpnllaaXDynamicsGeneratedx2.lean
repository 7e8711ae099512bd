-- This session's own text, written by wip/tools/xprint.py after the form of the kit's print.
import Derived.Test.YtfnpoalffpnllaaXDynamicsGeneratedx0
namespace Go.Proofs.Ytfnpoalffpnllaa.XDynamicsGenerated
open Go.RowKit Go.Proofs.YtfnpoalffpnllaaW.PrintWords Go.Proofs.YtfnpoalffpnllaaW.PrintLast Go.Proofs.YtfnpoalffpnllaaW.PrintMore
attribute [local go_sem] max2_int min2_int max_two min_two max_three min_three max_four min_four   -- for this text's walks alone
set_option linter.unusedVariables false
set_option linter.unusedSimpArgs false

/-! ### dynamics_gain: function 28 -/
def dynamics_gain.f (a0_0 : Int) (a0_1 : Int) (a1_0 : ByteArray) (a1_1 : Int) (a1_2 : Int) (a1_3 : Int) (a1_4 : Int) : Option (Int) := if a0_1 > 0 then (some (wrap64 (20000 * (mx 50 (wrap64 (a1_3 - (wrap64 (10 * a0_1)))))))) else (some (wrap64 (20000 * a1_3)))
set_option maxHeartbeats 8000000 in
set_option maxRecDepth 100000 in
theorem dynamics_gain.calls (a0_0 : Int) (a0_1 : Int) (a1_0 : ByteArray) (a1_1 : Int) (a1_2 : Int) (a1_3 : Int) (a1_4 : Int) (r : Int) (w : World) (h : dynamics_gain.f a0_0 a0_1 a1_0 a1_1 a1_2 a1_3 a1_4 = some r) :
    Calls Try.prog 28 #[.agg #[.int .i64 a0_0, .int .i64 a0_1], .agg #[.string a1_0, .int .i64 a1_1, .int .i64 a1_2, .int .i64 a1_3, .int .i64 a1_4]] w fun e w' => e = .returned (.int .i64 r) ∧ Below w.heap.size w w' := by
  have hu34 := Try.underlying34
  have hu26 := Try.underlying26
  have HB := Aside0.mk (Below.refl w.heap.size w)
  have H : (if a0_1 > 0 then (some (wrap64 (20000 * (mx 50 (wrap64 (a1_3 - (wrap64 (10 * a0_1)))))))) else (some (wrap64 (20000 * a1_3)))) = some r := h
  clear h
  by_cases c3 : a0_1 > 0
  · rw [if_pos c3] at H
    have c3b0 : decide (0 < a0_1) = true := decide_eq_true c3
    clear c3
    obtain ⟨ji4, hji4⟩ : ∃ j_ : Int, (mx 50 (wrap64 (a1_3 - (wrap64 (10 * a0_1))))) = j_ := ⟨_, rfl⟩
    replace H : (some (wrap64 (20000 * (ji4)))) = some r := by first | (rw [hji4] at H; exact H) | (simp only [hji4] at H ⊢; exact H)
    (try (have hji4l : 50 ≤ ji4 := by (rw [← hji4]; unfold mx; (repeat' split) <;> omega)))
    (try (have hji4m : 0 ≤ ji4 := by omega))
    have hji4_ : (if 50 < (wrap64 (a1_3 - (wrap64 (10 * a0_1)))) then (wrap64 (a1_3 - (wrap64 (10 * a0_1)))) else 50) = ji4 := hji4
    obtain rfl := Option.some.inj H
    go_enter Try.func28, Try.ntmps28
    go_wp2_with (first | ((with_reducible refine gate_dst (N := 2) rfl ?_); refine box_event ?hg (N := 2) ?hd (cs := #[.int .i64 a0_0, .int .i64 a0_1]) (t := 34) ?hr ?_; (case hd => rfl); (case hg => rfl); (case hr => first | (go_simp; done) | (go_simp; rfl)); intro gb145 hg w5 hbox hb; have n0_ := Aside0.mk (below_step (by repeat (first | (with_reducible first | exact HB.out | apply below_alloc | apply pw_below_drewN | apply below_drew1) | exact HB.out)) hb); have n1_ := Aside0.mk (hbox); have n2_ := Aside0.mk ((by rw [hg]; exact (below_size (by repeat (first | (with_reducible first | exact HB.out | apply below_alloc | apply pw_below_drewN | apply below_drew1) | exact HB.out))) : w.heap.size ≤ gb145)); have n3_ := Aside0.mk ((by rw [hg]; exact (below_size (by repeat (first | (with_reducible first | exact HB.out | apply below_alloc | apply pw_below_drewN | apply below_drew1) | exact HB.out))) : w.heap.size ≤ gb145)); clear HB; have HB := n0_; have BK145 := n1_; have GW145 := n2_; have GE145 := n3_; clear n0_ n1_ n2_ n3_; clear hb hbox hg) | ((with_reducible refine gate_dst (N := 3) rfl ?_); refine box_event ?hg (N := 3) ?hd (cs := #[.string a1_0, .int .i64 a1_1, .int .i64 a1_2, .int .i64 a1_3, .int .i64 a1_4]) (t := 26) ?hr ?_; (case hd => rfl); (case hg => rfl); (case hr => first | (go_simp; done) | (go_simp; rfl)); intro gb146 hg w6 hbox hb; have n0_ := Aside0.mk (blk_below (g := gb145) (o := .cells #[.int .i64 a0_0, .int .i64 a0_1] 34 (0, 0)) (by (with_reducible repeat (first | refine blk_drewN ?_ _ | refine blk_drew ?_ | refine blk_alloc ?_ _)); exact BK145.out) hb); have n1_ := Aside0.mk (below_step (by repeat (first | (with_reducible first | exact HB.out | apply below_alloc | apply pw_below_drewN | apply below_drew1 | refine below_set ?_ GE145.out) | exact HB.out)) hb); have n2_ := Aside0.mk (hbox); have n3_ := Aside0.mk ((by rw [hg]; exact (below_size (by repeat (first | (with_reducible first | exact HB.out | apply below_alloc | apply pw_below_drewN | apply below_drew1 | refine below_set ?_ GE145.out) | exact HB.out))) : w.heap.size ≤ gb146)); have n4_ := Aside0.mk ((by rw [hg]; exact (below_size (by repeat (first | (with_reducible first | exact HB.out | apply below_alloc | apply pw_below_drewN | apply below_drew1 | refine below_set ?_ GE145.out) | exact HB.out))) : w.heap.size ≤ gb146)); have n5_ := Aside0.mk ((by rw [hg]; exact Nat.ne_of_lt (blk_lt (g := gb145) (o := .cells #[.int .i64 a0_0, .int .i64 a0_1] 34 (0, 0)) (by (with_reducible repeat (first | refine blk_drewN ?_ _ | refine blk_drew ?_ | refine blk_alloc ?_ _)); exact BK145.out)) : gb145 ≠ gb146)); have n6_ := Aside0.mk ((by rw [hg]; exact Nat.ne_of_gt (blk_lt (g := gb145) (o := .cells #[.int .i64 a0_0, .int .i64 a0_1] 34 (0, 0)) (by (with_reducible repeat (first | refine blk_drewN ?_ _ | refine blk_drew ?_ | refine blk_alloc ?_ _)); exact BK145.out)) : gb146 ≠ gb145)); clear BK145; clear HB; have BK145 := n0_; have HB := n1_; have BK146 := n2_; have GW146 := n3_; have GE146 := n4_; have NB145_146 := n5_; have NB146_145 := n6_; clear n0_ n1_ n2_ n3_ n4_ n5_ n6_; clear hb hbox hg; have hnb7 := NB145_146.out; have hnc7 := NB146_145.out; have hcz8_0 : w6.cell? ⟨gb145, 0, none⟩ = some (.int .i64 a0_0) := (blk_cell BK145.out 0).trans rfl; have hcz8_1 : w6.cell? ⟨gb145, 1, none⟩ = some (.int .i64 a0_1) := (blk_cell BK145.out 1).trans rfl; have hfz8_0 := blk_frozen BK145.out 0; have hfz8_1 := blk_frozen BK145.out 1; have hcz9_0 : w6.cell? ⟨gb146, 0, none⟩ = some (.string a1_0) := (blk_cell BK146.out 0).trans rfl; have hcz9_1 : w6.cell? ⟨gb146, 1, none⟩ = some (.int .i64 a1_1) := (blk_cell BK146.out 1).trans rfl; have hcz9_2 : w6.cell? ⟨gb146, 2, none⟩ = some (.int .i64 a1_2) := (blk_cell BK146.out 2).trans rfl; have hcz9_3 : w6.cell? ⟨gb146, 3, none⟩ = some (.int .i64 a1_3) := (blk_cell BK146.out 3).trans rfl; have hcz9_4 : w6.cell? ⟨gb146, 4, none⟩ = some (.int .i64 a1_4) := (blk_cell BK146.out 4).trans rfl; have hfz9_0 := blk_frozen BK146.out 0; have hfz9_1 := blk_frozen BK146.out 1; have hfz9_2 := blk_frozen BK146.out 2; have hfz9_3 := blk_frozen BK146.out 3; have hfz9_4 := blk_frozen BK146.out 4))
    go_ret
    exact ⟨by first | rfl | (simp [errW_none, errW_some] <;> rfl) | (simp only [← hji4]; first | rfl | (simp [errW_none, errW_some] <;> rfl)) | (simp [*, errW_none, errW_some] <;> rfl), by repeat (first | (with_reducible first | exact HB.out | apply below_alloc | apply pw_below_drewN | apply below_drew1 | refine below_set ?_ GE145.out | refine below_set ?_ GE146.out) | exact HB.out)⟩
  · rw [if_neg c3] at H
    have c3b0 : decide (0 < a0_1) = false := decide_eq_false c3
    clear c3
    obtain rfl := Option.some.inj H
    go_enter Try.func28, Try.ntmps28
    go_wp2_with (first | ((with_reducible refine gate_dst (N := 2) rfl ?_); refine box_event ?hg (N := 2) ?hd (cs := #[.int .i64 a0_0, .int .i64 a0_1]) (t := 34) ?hr ?_; (case hd => rfl); (case hg => rfl); (case hr => first | (go_simp; done) | (go_simp; rfl)); intro gb145 hg w10 hbox hb; have n0_ := Aside0.mk (below_step (by repeat (first | (with_reducible first | exact HB.out | apply below_alloc | apply pw_below_drewN | apply below_drew1) | exact HB.out)) hb); have n1_ := Aside0.mk (hbox); have n2_ := Aside0.mk ((by rw [hg]; exact (below_size (by repeat (first | (with_reducible first | exact HB.out | apply below_alloc | apply pw_below_drewN | apply below_drew1) | exact HB.out))) : w.heap.size ≤ gb145)); have n3_ := Aside0.mk ((by rw [hg]; exact (below_size (by repeat (first | (with_reducible first | exact HB.out | apply below_alloc | apply pw_below_drewN | apply below_drew1) | exact HB.out))) : w.heap.size ≤ gb145)); clear HB; have HB := n0_; have BK145 := n1_; have GW145 := n2_; have GE145 := n3_; clear n0_ n1_ n2_ n3_; clear hb hbox hg) | ((with_reducible refine gate_dst (N := 3) rfl ?_); refine box_event ?hg (N := 3) ?hd (cs := #[.string a1_0, .int .i64 a1_1, .int .i64 a1_2, .int .i64 a1_3, .int .i64 a1_4]) (t := 26) ?hr ?_; (case hd => rfl); (case hg => rfl); (case hr => first | (go_simp; done) | (go_simp; rfl)); intro gb146 hg w11 hbox hb; have n0_ := Aside0.mk (blk_below (g := gb145) (o := .cells #[.int .i64 a0_0, .int .i64 a0_1] 34 (0, 0)) (by (with_reducible repeat (first | refine blk_drewN ?_ _ | refine blk_drew ?_ | refine blk_alloc ?_ _)); exact BK145.out) hb); have n1_ := Aside0.mk (below_step (by repeat (first | (with_reducible first | exact HB.out | apply below_alloc | apply pw_below_drewN | apply below_drew1 | refine below_set ?_ GE145.out) | exact HB.out)) hb); have n2_ := Aside0.mk (hbox); have n3_ := Aside0.mk ((by rw [hg]; exact (below_size (by repeat (first | (with_reducible first | exact HB.out | apply below_alloc | apply pw_below_drewN | apply below_drew1 | refine below_set ?_ GE145.out) | exact HB.out))) : w.heap.size ≤ gb146)); have n4_ := Aside0.mk ((by rw [hg]; exact (below_size (by repeat (first | (with_reducible first | exact HB.out | apply below_alloc | apply pw_below_drewN | apply below_drew1 | refine below_set ?_ GE145.out) | exact HB.out))) : w.heap.size ≤ gb146)); have n5_ := Aside0.mk ((by rw [hg]; exact Nat.ne_of_lt (blk_lt (g := gb145) (o := .cells #[.int .i64 a0_0, .int .i64 a0_1] 34 (0, 0)) (by (with_reducible repeat (first | refine blk_drewN ?_ _ | refine blk_drew ?_ | refine blk_alloc ?_ _)); exact BK145.out)) : gb145 ≠ gb146)); have n6_ := Aside0.mk ((by rw [hg]; exact Nat.ne_of_gt (blk_lt (g := gb145) (o := .cells #[.int .i64 a0_0, .int .i64 a0_1] 34 (0, 0)) (by (with_reducible repeat (first | refine blk_drewN ?_ _ | refine blk_drew ?_ | refine blk_alloc ?_ _)); exact BK145.out)) : gb146 ≠ gb145)); clear BK145; clear HB; have BK145 := n0_; have HB := n1_; have BK146 := n2_; have GW146 := n3_; have GE146 := n4_; have NB145_146 := n5_; have NB146_145 := n6_; clear n0_ n1_ n2_ n3_ n4_ n5_ n6_; clear hb hbox hg; have hnb12 := NB145_146.out; have hnc12 := NB146_145.out; have hcz13_0 : w11.cell? ⟨gb145, 0, none⟩ = some (.int .i64 a0_0) := (blk_cell BK145.out 0).trans rfl; have hcz13_1 : w11.cell? ⟨gb145, 1, none⟩ = some (.int .i64 a0_1) := (blk_cell BK145.out 1).trans rfl; have hfz13_0 := blk_frozen BK145.out 0; have hfz13_1 := blk_frozen BK145.out 1; have hcz14_0 : w11.cell? ⟨gb146, 0, none⟩ = some (.string a1_0) := (blk_cell BK146.out 0).trans rfl; have hcz14_1 : w11.cell? ⟨gb146, 1, none⟩ = some (.int .i64 a1_1) := (blk_cell BK146.out 1).trans rfl; have hcz14_2 : w11.cell? ⟨gb146, 2, none⟩ = some (.int .i64 a1_2) := (blk_cell BK146.out 2).trans rfl; have hcz14_3 : w11.cell? ⟨gb146, 3, none⟩ = some (.int .i64 a1_3) := (blk_cell BK146.out 3).trans rfl; have hcz14_4 : w11.cell? ⟨gb146, 4, none⟩ = some (.int .i64 a1_4) := (blk_cell BK146.out 4).trans rfl; have hfz14_0 := blk_frozen BK146.out 0; have hfz14_1 := blk_frozen BK146.out 1; have hfz14_2 := blk_frozen BK146.out 2; have hfz14_3 := blk_frozen BK146.out 3; have hfz14_4 := blk_frozen BK146.out 4))
    go_ret
    exact ⟨by first | rfl | (simp [errW_none, errW_some] <;> rfl) | (simp [*, errW_none, errW_some] <;> rfl), by repeat (first | (with_reducible first | exact HB.out | apply below_alloc | apply pw_below_drewN | apply below_drew1 | refine below_set ?_ GE145.out | refine below_set ?_ GE146.out) | exact HB.out)⟩

/-! ### dynamics_loss: function 29 -/
def dynamics_loss.f (a0_0 : Int) (a0_1 : Int) (a1_0 : ByteArray) (a1_1 : Int) (a1_2 : Int) (a1_3 : Int) (a1_4 : Int) : Option (Int) := if a0_1 < 0 then (some (wrap64 (20000 * (mx 50 (wrap64 (a1_4 + (wrap64 (10 * a0_1)))))))) else (some (wrap64 (20000 * a1_4)))
set_option maxHeartbeats 8000000 in
set_option maxRecDepth 100000 in
theorem dynamics_loss.calls (a0_0 : Int) (a0_1 : Int) (a1_0 : ByteArray) (a1_1 : Int) (a1_2 : Int) (a1_3 : Int) (a1_4 : Int) (r : Int) (w : World) (h : dynamics_loss.f a0_0 a0_1 a1_0 a1_1 a1_2 a1_3 a1_4 = some r) :
    Calls Try.prog 29 #[.agg #[.int .i64 a0_0, .int .i64 a0_1], .agg #[.string a1_0, .int .i64 a1_1, .int .i64 a1_2, .int .i64 a1_3, .int .i64 a1_4]] w fun e w' => e = .returned (.int .i64 r) ∧ Below w.heap.size w w' := by
  have hu34 := Try.underlying34
  have hu26 := Try.underlying26
  have HB := Aside0.mk (Below.refl w.heap.size w)
  have H : (if a0_1 < 0 then (some (wrap64 (20000 * (mx 50 (wrap64 (a1_4 + (wrap64 (10 * a0_1)))))))) else (some (wrap64 (20000 * a1_4)))) = some r := h
  clear h
  by_cases c3 : a0_1 < 0
  · rw [if_pos c3] at H
    have c3b0 : decide (a0_1 < 0) = true := decide_eq_true c3
    clear c3
    obtain ⟨ji4, hji4⟩ : ∃ j_ : Int, (mx 50 (wrap64 (a1_4 + (wrap64 (10 * a0_1))))) = j_ := ⟨_, rfl⟩
    replace H : (some (wrap64 (20000 * (ji4)))) = some r := by first | (rw [hji4] at H; exact H) | (simp only [hji4] at H ⊢; exact H)
    (try (have hji4l : 50 ≤ ji4 := by (rw [← hji4]; unfold mx; (repeat' split) <;> omega)))
    (try (have hji4m : 0 ≤ ji4 := by omega))
    have hji4_ : (if 50 < (wrap64 (a1_4 + (wrap64 (10 * a0_1)))) then (wrap64 (a1_4 + (wrap64 (10 * a0_1)))) else 50) = ji4 := hji4
    obtain rfl := Option.some.inj H
    go_enter Try.func29, Try.ntmps29
    go_wp2_with (first | ((with_reducible refine gate_dst (N := 2) rfl ?_); refine box_event ?hg (N := 2) ?hd (cs := #[.int .i64 a0_0, .int .i64 a0_1]) (t := 34) ?hr ?_; (case hd => rfl); (case hg => rfl); (case hr => first | (go_simp; done) | (go_simp; rfl)); intro gb147 hg w5 hbox hb; have n0_ := Aside0.mk (below_step (by repeat (first | (with_reducible first | exact HB.out | apply below_alloc | apply pw_below_drewN | apply below_drew1) | exact HB.out)) hb); have n1_ := Aside0.mk (hbox); have n2_ := Aside0.mk ((by rw [hg]; exact (below_size (by repeat (first | (with_reducible first | exact HB.out | apply below_alloc | apply pw_below_drewN | apply below_drew1) | exact HB.out))) : w.heap.size ≤ gb147)); have n3_ := Aside0.mk ((by rw [hg]; exact (below_size (by repeat (first | (with_reducible first | exact HB.out | apply below_alloc | apply pw_below_drewN | apply below_drew1) | exact HB.out))) : w.heap.size ≤ gb147)); clear HB; have HB := n0_; have BK147 := n1_; have GW147 := n2_; have GE147 := n3_; clear n0_ n1_ n2_ n3_; clear hb hbox hg) | ((with_reducible refine gate_dst (N := 3) rfl ?_); refine box_event ?hg (N := 3) ?hd (cs := #[.string a1_0, .int .i64 a1_1, .int .i64 a1_2, .int .i64 a1_3, .int .i64 a1_4]) (t := 26) ?hr ?_; (case hd => rfl); (case hg => rfl); (case hr => first | (go_simp; done) | (go_simp; rfl)); intro gb148 hg w6 hbox hb; have n0_ := Aside0.mk (blk_below (g := gb147) (o := .cells #[.int .i64 a0_0, .int .i64 a0_1] 34 (0, 0)) (by (with_reducible repeat (first | refine blk_drewN ?_ _ | refine blk_drew ?_ | refine blk_alloc ?_ _)); exact BK147.out) hb); have n1_ := Aside0.mk (below_step (by repeat (first | (with_reducible first | exact HB.out | apply below_alloc | apply pw_below_drewN | apply below_drew1 | refine below_set ?_ GE147.out) | exact HB.out)) hb); have n2_ := Aside0.mk (hbox); have n3_ := Aside0.mk ((by rw [hg]; exact (below_size (by repeat (first | (with_reducible first | exact HB.out | apply below_alloc | apply pw_below_drewN | apply below_drew1 | refine below_set ?_ GE147.out) | exact HB.out))) : w.heap.size ≤ gb148)); have n4_ := Aside0.mk ((by rw [hg]; exact (below_size (by repeat (first | (with_reducible first | exact HB.out | apply below_alloc | apply pw_below_drewN | apply below_drew1 | refine below_set ?_ GE147.out) | exact HB.out))) : w.heap.size ≤ gb148)); have n5_ := Aside0.mk ((by rw [hg]; exact Nat.ne_of_lt (blk_lt (g := gb147) (o := .cells #[.int .i64 a0_0, .int .i64 a0_1] 34 (0, 0)) (by (with_reducible repeat (first | refine blk_drewN ?_ _ | refine blk_drew ?_ | refine blk_alloc ?_ _)); exact BK147.out)) : gb147 ≠ gb148)); have n6_ := Aside0.mk ((by rw [hg]; exact Nat.ne_of_gt (blk_lt (g := gb147) (o := .cells #[.int .i64 a0_0, .int .i64 a0_1] 34 (0, 0)) (by (with_reducible repeat (first | refine blk_drewN ?_ _ | refine blk_drew ?_ | refine blk_alloc ?_ _)); exact BK147.out)) : gb148 ≠ gb147)); clear BK147; clear HB; have BK147 := n0_; have HB := n1_; have BK148 := n2_; have GW148 := n3_; have GE148 := n4_; have NB147_148 := n5_; have NB148_147 := n6_; clear n0_ n1_ n2_ n3_ n4_ n5_ n6_; clear hb hbox hg; have hnb7 := NB147_148.out; have hnc7 := NB148_147.out; have hcz8_0 : w6.cell? ⟨gb147, 0, none⟩ = some (.int .i64 a0_0) := (blk_cell BK147.out 0).trans rfl; have hcz8_1 : w6.cell? ⟨gb147, 1, none⟩ = some (.int .i64 a0_1) := (blk_cell BK147.out 1).trans rfl; have hfz8_0 := blk_frozen BK147.out 0; have hfz8_1 := blk_frozen BK147.out 1; have hcz9_0 : w6.cell? ⟨gb148, 0, none⟩ = some (.string a1_0) := (blk_cell BK148.out 0).trans rfl; have hcz9_1 : w6.cell? ⟨gb148, 1, none⟩ = some (.int .i64 a1_1) := (blk_cell BK148.out 1).trans rfl; have hcz9_2 : w6.cell? ⟨gb148, 2, none⟩ = some (.int .i64 a1_2) := (blk_cell BK148.out 2).trans rfl; have hcz9_3 : w6.cell? ⟨gb148, 3, none⟩ = some (.int .i64 a1_3) := (blk_cell BK148.out 3).trans rfl; have hcz9_4 : w6.cell? ⟨gb148, 4, none⟩ = some (.int .i64 a1_4) := (blk_cell BK148.out 4).trans rfl; have hfz9_0 := blk_frozen BK148.out 0; have hfz9_1 := blk_frozen BK148.out 1; have hfz9_2 := blk_frozen BK148.out 2; have hfz9_3 := blk_frozen BK148.out 3; have hfz9_4 := blk_frozen BK148.out 4))
    go_ret
    exact ⟨by first | rfl | (simp [errW_none, errW_some] <;> rfl) | (simp only [← hji4]; first | rfl | (simp [errW_none, errW_some] <;> rfl)) | (simp [*, errW_none, errW_some] <;> rfl), by repeat (first | (with_reducible first | exact HB.out | apply below_alloc | apply pw_below_drewN | apply below_drew1 | refine below_set ?_ GE147.out | refine below_set ?_ GE148.out) | exact HB.out)⟩
  · rw [if_neg c3] at H
    have c3b0 : decide (a0_1 < 0) = false := decide_eq_false c3
    clear c3
    obtain rfl := Option.some.inj H
    go_enter Try.func29, Try.ntmps29
    go_wp2_with (first | ((with_reducible refine gate_dst (N := 2) rfl ?_); refine box_event ?hg (N := 2) ?hd (cs := #[.int .i64 a0_0, .int .i64 a0_1]) (t := 34) ?hr ?_; (case hd => rfl); (case hg => rfl); (case hr => first | (go_simp; done) | (go_simp; rfl)); intro gb147 hg w10 hbox hb; have n0_ := Aside0.mk (below_step (by repeat (first | (with_reducible first | exact HB.out | apply below_alloc | apply pw_below_drewN | apply below_drew1) | exact HB.out)) hb); have n1_ := Aside0.mk (hbox); have n2_ := Aside0.mk ((by rw [hg]; exact (below_size (by repeat (first | (with_reducible first | exact HB.out | apply below_alloc | apply pw_below_drewN | apply below_drew1) | exact HB.out))) : w.heap.size ≤ gb147)); have n3_ := Aside0.mk ((by rw [hg]; exact (below_size (by repeat (first | (with_reducible first | exact HB.out | apply below_alloc | apply pw_below_drewN | apply below_drew1) | exact HB.out))) : w.heap.size ≤ gb147)); clear HB; have HB := n0_; have BK147 := n1_; have GW147 := n2_; have GE147 := n3_; clear n0_ n1_ n2_ n3_; clear hb hbox hg) | ((with_reducible refine gate_dst (N := 3) rfl ?_); refine box_event ?hg (N := 3) ?hd (cs := #[.string a1_0, .int .i64 a1_1, .int .i64 a1_2, .int .i64 a1_3, .int .i64 a1_4]) (t := 26) ?hr ?_; (case hd => rfl); (case hg => rfl); (case hr => first | (go_simp; done) | (go_simp; rfl)); intro gb148 hg w11 hbox hb; have n0_ := Aside0.mk (blk_below (g := gb147) (o := .cells #[.int .i64 a0_0, .int .i64 a0_1] 34 (0, 0)) (by (with_reducible repeat (first | refine blk_drewN ?_ _ | refine blk_drew ?_ | refine blk_alloc ?_ _)); exact BK147.out) hb); have n1_ := Aside0.mk (below_step (by repeat (first | (with_reducible first | exact HB.out | apply below_alloc | apply pw_below_drewN | apply below_drew1 | refine below_set ?_ GE147.out) | exact HB.out)) hb); have n2_ := Aside0.mk (hbox); have n3_ := Aside0.mk ((by rw [hg]; exact (below_size (by repeat (first | (with_reducible first | exact HB.out | apply below_alloc | apply pw_below_drewN | apply below_drew1 | refine below_set ?_ GE147.out) | exact HB.out))) : w.heap.size ≤ gb148)); have n4_ := Aside0.mk ((by rw [hg]; exact (below_size (by repeat (first | (with_reducible first | exact HB.out | apply below_alloc | apply pw_below_drewN | apply below_drew1 | refine below_set ?_ GE147.out) | exact HB.out))) : w.heap.size ≤ gb148)); have n5_ := Aside0.mk ((by rw [hg]; exact Nat.ne_of_lt (blk_lt (g := gb147) (o := .cells #[.int .i64 a0_0, .int .i64 a0_1] 34 (0, 0)) (by (with_reducible repeat (first | refine blk_drewN ?_ _ | refine blk_drew ?_ | refine blk_alloc ?_ _)); exact BK147.out)) : gb147 ≠ gb148)); have n6_ := Aside0.mk ((by rw [hg]; exact Nat.ne_of_gt (blk_lt (g := gb147) (o := .cells #[.int .i64 a0_0, .int .i64 a0_1] 34 (0, 0)) (by (with_reducible repeat (first | refine blk_drewN ?_ _ | refine blk_drew ?_ | refine blk_alloc ?_ _)); exact BK147.out)) : gb148 ≠ gb147)); clear BK147; clear HB; have BK147 := n0_; have HB := n1_; have BK148 := n2_; have GW148 := n3_; have GE148 := n4_; have NB147_148 := n5_; have NB148_147 := n6_; clear n0_ n1_ n2_ n3_ n4_ n5_ n6_; clear hb hbox hg; have hnb12 := NB147_148.out; have hnc12 := NB148_147.out; have hcz13_0 : w11.cell? ⟨gb147, 0, none⟩ = some (.int .i64 a0_0) := (blk_cell BK147.out 0).trans rfl; have hcz13_1 : w11.cell? ⟨gb147, 1, none⟩ = some (.int .i64 a0_1) := (blk_cell BK147.out 1).trans rfl; have hfz13_0 := blk_frozen BK147.out 0; have hfz13_1 := blk_frozen BK147.out 1; have hcz14_0 : w11.cell? ⟨gb148, 0, none⟩ = some (.string a1_0) := (blk_cell BK148.out 0).trans rfl; have hcz14_1 : w11.cell? ⟨gb148, 1, none⟩ = some (.int .i64 a1_1) := (blk_cell BK148.out 1).trans rfl; have hcz14_2 : w11.cell? ⟨gb148, 2, none⟩ = some (.int .i64 a1_2) := (blk_cell BK148.out 2).trans rfl; have hcz14_3 : w11.cell? ⟨gb148, 3, none⟩ = some (.int .i64 a1_3) := (blk_cell BK148.out 3).trans rfl; have hcz14_4 : w11.cell? ⟨gb148, 4, none⟩ = some (.int .i64 a1_4) := (blk_cell BK148.out 4).trans rfl; have hfz14_0 := blk_frozen BK148.out 0; have hfz14_1 := blk_frozen BK148.out 1; have hfz14_2 := blk_frozen BK148.out 2; have hfz14_3 := blk_frozen BK148.out 3; have hfz14_4 := blk_frozen BK148.out 4))
    go_ret
    exact ⟨by first | rfl | (simp [errW_none, errW_some] <;> rfl) | (simp [*, errW_none, errW_some] <;> rfl), by repeat (first | (with_reducible first | exact HB.out | apply below_alloc | apply pw_below_drewN | apply below_drew1 | refine below_set ?_ GE147.out | refine below_set ?_ GE148.out) | exact HB.out)⟩

/-! ### arith_Sqrt: function 30 -/
def arith_Sqrt.l0 : Nat → Int → Int → Int → Option (Int)
  | 0, _, _, _ => none
  | k + 1, x0, x3, x4 => if x3 < x4 then (if (wrap64 (x3 + (wrap64 (Int.tdiv (wrap64 ((wrap64 (x4 - x3)) + 1)) 2)))) = 0 then (none) else (if (wrap64 (x3 + (wrap64 (Int.tdiv (wrap64 ((wrap64 (x4 - x3)) + 1)) 2)))) ≤ (wrap64 (Int.tdiv x0 (wrap64 (x3 + (wrap64 (Int.tdiv (wrap64 ((wrap64 (x4 - x3)) + 1)) 2)))))) then (arith_Sqrt.l0 k x0 (wrap64 (x3 + (wrap64 (Int.tdiv (wrap64 ((wrap64 (x4 - x3)) + 1)) 2)))) x4) else (arith_Sqrt.l0 k x0 x3 (wrap64 ((wrap64 (x3 + (wrap64 (Int.tdiv (wrap64 ((wrap64 (x4 - x3)) + 1)) 2)))) - 1))))) else (some x3)
def arith_Sqrt.f (k : Nat) (a0 : Int) : Option (Int) := if a0 < 1 then (some 0) else (arith_Sqrt.l0 k a0 1 3037000499)
theorem arith_Sqrt.mono_l : ∀ k, (∀ y0 y1 y2, LeO (arith_Sqrt.l0 k y0 y1 y2) (arith_Sqrt.l0 (k + 1) y0 y1 y2))
  | 0 => fun _ _ _ r h => by simp [arith_Sqrt.l0] at h
  | k + 1 => by
    have ih0 := arith_Sqrt.mono_l k
    · intro y0 y1 y2
      unfold arith_Sqrt.l0
      repeat' first
      | (with_reducible exact ih0 _ _ _)
      | (with_reducible exact LeO.refl _)
      | (with_reducible exact LeO.none _)
      | (with_reducible refine LeO.ite ?_ ?_)
      | (with_reducible refine LeO.bind ?_ (fun _ => ?_))
      | exact ih0 _ _ _
      | exact LeO.none _
      | refine LeO.ite ?_ ?_
      | refine LeO.bind ?_ (fun _ => ?_)
theorem arith_Sqrt.mono : ∀ a0 k, LeO (arith_Sqrt.f k a0) (arith_Sqrt.f (k + 1) a0) := by
  intro a0 k
  have ih0 := arith_Sqrt.mono_l k
  unfold arith_Sqrt.f
  repeat' first
      | (with_reducible exact ih0 _ _ _)
      | (with_reducible exact LeO.refl _)
      | (with_reducible exact LeO.none _)
      | (with_reducible refine LeO.ite ?_ ?_)
      | (with_reducible refine LeO.bind ?_ (fun _ => ?_))
      | exact ih0 _ _ _
      | exact LeO.none _
      | refine LeO.ite ?_ ?_
      | refine LeO.bind ?_ (fun _ => ?_)
set_option maxHeartbeats 8000000 in
set_option maxRecDepth 100000 in
theorem arith_Sqrt.calls (k : Nat) (a0 : Int) (r : Int) (w : World) (h : arith_Sqrt.f k a0 = some r) :
    Calls Try.prog 30 #[.int .i64 a0] w fun e w' => e = .returned (.int .i64 r) ∧ Drawn0 w w' := by
  have H : (if a0 < 1 then (some 0) else (arith_Sqrt.l0 k a0 1 3037000499)) = some r := h
  clear h
  by_cases c2 : a0 < 1
  · rw [if_pos c2] at H
    have c2b0 : decide (a0 < 1) = true := decide_eq_true c2
    clear c2
    obtain rfl := Option.some.inj H
    go_enter Try.func30, Try.ntmps30
    go_wp2
    go_ret
    exact ⟨by first | rfl | (simp; done) | (simp [*]; done), by repeat (first | exact Drawn0.refl _ | apply Drawn0.step)⟩
  · rw [if_neg c2] at H
    have c2b0 : decide (a0 < 1) = false := decide_eq_false c2
    clear c2
    have H' := Aside0.mk H
    clear H
    go_enter Try.func30, Try.ntmps30
    go_wp2
    go_loopg [3, 4] k (fun kq v3 v4 w' => ∃ (x3_1 : Int) (x4_1 : Int), v3 = .int .i64 x3_1 ∧ v4 = .int .i64 x4_1 ∧ Aside0 (arith_Sqrt.l0 kq a0 x3_1 x4_1 = some r) ∧ Aside0 (kq ≤ k) ∧ Drawn0 w w')
    case atStart => exact ⟨(1), (3037000499), (by first | rfl | (simp; done) | (simp [*]; done)), (by first | rfl | (simp; done) | (simp [*]; done)), H', ⟨Nat.le_refl _⟩, by repeat (first | exact Drawn0.refl _ | apply Drawn0.step)⟩
    case round =>
      clear H'
      try clear c2
      try clear c2b0
      try clear p2
      obtain ⟨x3_1, x4_1, rfl, rfl, HA, HK1, ⟨m1, rfl⟩⟩ := hrel
      cases gk with
      | zero => exact absurd HA.out (by simp [arith_Sqrt.l0])
      | succ k1 =>
        have H := HA.out
        clear HA
        simp only [arith_Sqrt.l0] at H
        by_cases c3 : x3_1 < x4_1
        · rw [if_pos c3] at H
          have c3b0 : decide (x3_1 < x4_1) = true := decide_eq_true c3
          clear c3
          by_cases c4 : (wrap64 (x3_1 + (wrap64 (Int.tdiv (wrap64 ((wrap64 (x4_1 - x3_1)) + 1)) 2)))) = 0
          · rw [if_pos c4] at H
            exact absurd H (by simp)
          · rw [if_neg c4] at H
            have c4b0 : ((wrap64 (x3_1 + (wrap64 (Int.tdiv (wrap64 ((wrap64 (x4_1 - x3_1)) + 1)) 2)))) == 0) = false := beq_eq_false_iff_ne.mpr c4
            have c4b1 : ((wrap64 (x3_1 + (wrap64 (Int.tdiv (wrap64 ((wrap64 (x4_1 - x3_1)) + 1)) 2)))) != 0) = true := bne_iff_ne.mpr c4
            by_cases c5 : (wrap64 (x3_1 + (wrap64 (Int.tdiv (wrap64 ((wrap64 (x4_1 - x3_1)) + 1)) 2)))) ≤ (wrap64 (Int.tdiv a0 (wrap64 (x3_1 + (wrap64 (Int.tdiv (wrap64 ((wrap64 (x4_1 - x3_1)) + 1)) 2))))))
            · rw [if_pos c5] at H
              have c5b0 : decide ((wrap64 (x3_1 + (wrap64 (Int.tdiv (wrap64 ((wrap64 (x4_1 - x3_1)) + 1)) 2)))) ≤ (wrap64 (Int.tdiv a0 (wrap64 (x3_1 + (wrap64 (Int.tdiv (wrap64 ((wrap64 (x4_1 - x3_1)) + 1)) 2))))))) = true := decide_eq_true c5
              clear c5
              have H' := Aside0.mk H
              clear H
              go_wp2
              go_roundg k1
              case measure => have := HK1.out; omega
              case rel => exact ⟨(wrap64 (x3_1 + (wrap64 (Int.tdiv (wrap64 ((wrap64 (x4_1 - x3_1)) + 1)) 2)))), (x4_1), (by first | rfl | (simp; done) | (simp [*]; done)), (by first | rfl | (simp; done) | (simp [*]; done)), H', ⟨by have := HK1.out; omega⟩, by repeat (first | exact Drawn0.refl _ | apply Drawn0.step)⟩
            · rw [if_neg c5] at H
              have c5b0 : decide ((wrap64 (x3_1 + (wrap64 (Int.tdiv (wrap64 ((wrap64 (x4_1 - x3_1)) + 1)) 2)))) ≤ (wrap64 (Int.tdiv a0 (wrap64 (x3_1 + (wrap64 (Int.tdiv (wrap64 ((wrap64 (x4_1 - x3_1)) + 1)) 2))))))) = false := decide_eq_false c5
              clear c5
              have H' := Aside0.mk H
              clear H
              go_wp2
              go_roundg k1
              case measure => have := HK1.out; omega
              case rel => exact ⟨(x3_1), (wrap64 ((wrap64 (x3_1 + (wrap64 (Int.tdiv (wrap64 ((wrap64 (x4_1 - x3_1)) + 1)) 2)))) - 1)), (by first | rfl | (simp; done) | (simp [*]; done)), (by first | rfl | (simp; done) | (simp [*]; done)), H', ⟨by have := HK1.out; omega⟩, by repeat (first | exact Drawn0.refl _ | apply Drawn0.step)⟩
        · rw [if_neg c3] at H
          have c3b0 : decide (x3_1 < x4_1) = false := decide_eq_false c3
          clear c3
          obtain rfl := Option.some.inj H
          go_wp2
          go_ret
          exact ⟨by first | rfl | (simp; done) | (simp [*]; done), by repeat (first | exact Drawn0.refl _ | apply Drawn0.step)⟩

end Go.Proofs.Ytfnpoalffpnllaa.XDynamicsGenerated
