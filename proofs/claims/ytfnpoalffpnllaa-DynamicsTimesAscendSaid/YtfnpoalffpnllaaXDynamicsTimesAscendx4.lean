-- This session's own text, written by wip/tools/xprint.py after the form of the kit's print.
import Derived.Test.YtfnpoalffpnllaaXDynamicsTimesAscendx0
import Derived.Test.YtfnpoalffpnllaaXDynamicsTimesAscendx1
import Derived.Test.YtfnpoalffpnllaaXDynamicsTimesAscendx3
namespace Go.Proofs.Ytfnpoalffpnllaa.XDynamicsTimesAscend
open Go.RowKit Go.Proofs.YtfnpoalffpnllaaW.PrintWords Go.Proofs.YtfnpoalffpnllaaW.PrintLast Go.Proofs.YtfnpoalffpnllaaW.PrintMore
attribute [local go_sem] max2_int min2_int max_two min_two max_three min_three max_four min_four   -- for this text's walks alone
set_option linter.unusedVariables false
set_option linter.unusedSimpArgs false

/-! ### arith_CeilDiv: function 31 -/
def arith_CeilDiv.f (a0 : Int) (a1 : Int) : Option (Int × Int) := if a1 < 1 then (some (0, 1)) else (if a1 = 0 then (none) else (if (Int.tmod a0 a1) > 0 then (some (wrap64 ((wrap64 (Int.tdiv a0 a1)) + 1), 0)) else (some (wrap64 (Int.tdiv a0 a1), 0))))
set_option maxHeartbeats 8000000 in
set_option maxRecDepth 100000 in
theorem arith_CeilDiv.calls (a0 : Int) (a1 : Int) (r1 : Int) (r2 : Int) (w : World) (h : arith_CeilDiv.f a0 a1 = some (r1, r2)) :
    Calls Try.prog 31 #[.int .i64 a0, .int .i64 a1] w fun e w' => e = .returned (.tuple #[.int .i64 r1, .int .i64 r2]) ∧ Drawn0 w w' := by
  have H : (if a1 < 1 then (some (0, 1)) else (if a1 = 0 then (none) else (if (Int.tmod a0 a1) > 0 then (some (wrap64 ((wrap64 (Int.tdiv a0 a1)) + 1), 0)) else (some (wrap64 (Int.tdiv a0 a1), 0))))) = some (r1, r2) := h
  clear h
  by_cases c3 : a1 < 1
  · rw [if_pos c3] at H
    have c3b0 : decide (a1 < 1) = true := decide_eq_true c3
    clear c3
    simp only [Option.some.injEq, Prod.mk.injEq] at H
    obtain ⟨rfl, rfl⟩ := H
    go_enter Try.func31, Try.ntmps31
    go_wp2
    go_ret2
    exact ⟨by first | rfl | (simp; done) | (simp [*]; done), by repeat (first | exact Drawn0.refl _ | apply Drawn0.step)⟩
  · rw [if_neg c3] at H
    have c3b0 : decide (a1 < 1) = false := decide_eq_false c3
    clear c3
    by_cases c4 : a1 = 0
    · rw [if_pos c4] at H
      exact absurd H (by simp)
    · rw [if_neg c4] at H
      have c4b0 : (a1 == 0) = false := beq_eq_false_iff_ne.mpr c4
      have c4b1 : (a1 != 0) = true := bne_iff_ne.mpr c4
      by_cases c5 : (Int.tmod a0 a1) > 0
      · rw [if_pos c5] at H
        have c5b0 : decide (0 < (Int.tmod a0 a1)) = true := decide_eq_true c5
        clear c5
        simp only [Option.some.injEq, Prod.mk.injEq] at H
        obtain ⟨rfl, rfl⟩ := H
        go_enter Try.func31, Try.ntmps31
        go_wp2
        go_ret2
        exact ⟨by first | rfl | (simp; done) | (simp [*]; done), by repeat (first | exact Drawn0.refl _ | apply Drawn0.step)⟩
      · rw [if_neg c5] at H
        have c5b0 : decide (0 < (Int.tmod a0 a1)) = false := decide_eq_false c5
        clear c5
        simp only [Option.some.injEq, Prod.mk.injEq] at H
        obtain ⟨rfl, rfl⟩ := H
        go_enter Try.func31, Try.ntmps31
        go_wp2
        go_ret2
        exact ⟨by first | rfl | (simp; done) | (simp [*]; done), by repeat (first | exact Drawn0.refl _ | apply Drawn0.step)⟩

/-! ### dynamics_Times: function 19 -/
def dynamics_Times.l0 : Nat → List Int → List Int → Int → Option (List Int × Int)
  | 0, _, _, _ => none
  | k + 1, x8, x10, x11 => if x11 < (x8.length : Int) then (if 0 ≤ (wrap64 (x11 - 1)) then (if (wrap64 (x11 - 1)) < (x8.length : Int) then (if 0 ≤ x11 then ((arith_CeilDiv.f 20000000 (wrap64 ((rd x8 (wrap64 (x11 - 1))) + (rd x8 x11)))).bind fun bt182 => (if (wrap64 (x11 - 1)) < (x10.length : Int) then (if x10.length < 17592186044416 then (dynamics_Times.l0 k x8 (x10 ++ [wrap64 ((rd x10 (wrap64 (x11 - 1))) + bt182.1)]) (wrap64 (x11 + 1))) else (none)) else (none))) else (none)) else (none)) else (none)) else (some (x10, 0))
def dynamics_Times.f (k : Nat) (l0 : List (S34)) (a1 : Int) (a2_0 : ByteArray) (a2_1 : Int) (a2_2 : Int) (a2_3 : Int) (a2_4 : Int) : Option (List Int × Int) := (dynamics_Speeds.f k l0 a1 a2_0 a2_1 a2_2 a2_3 a2_4).bind fun bt173 => (if bt173.2 = 0 then (dynamics_Times.l0 k bt173.1 (([0] : List Int)) 1) else (some (([] : List Int), bt173.2)))
theorem dynamics_Times.mono_l : ∀ k, (∀ y0 y1 y2, LeO (dynamics_Times.l0 k y0 y1 y2) (dynamics_Times.l0 (k + 1) y0 y1 y2))
  | 0 => fun _ _ _ r h => by simp [dynamics_Times.l0] at h
  | k + 1 => by
    have ih0 := dynamics_Times.mono_l k
    · intro y0 y1 y2
      unfold dynamics_Times.l0
      repeat' first
      | (with_reducible exact ih0 _ _ _)
      | (with_reducible exact dynamics_Speeds.mono _ _ _ _ _ _ _ _)
      | (with_reducible exact LeO.refl _)
      | (with_reducible exact LeO.none _)
      | (with_reducible refine LeO.ite ?_ ?_)
      | (with_reducible refine LeO.bind ?_ (fun _ => ?_))
      | exact ih0 _ _ _
      | exact dynamics_Speeds.mono _ _ _ _ _ _ _ _
      | exact LeO.none _
      | refine LeO.ite ?_ ?_
      | refine LeO.bind ?_ (fun _ => ?_)
theorem dynamics_Times.mono : ∀ a0 a1 a2 a3 a4 a5 a6 k, LeO (dynamics_Times.f k a0 a1 a2 a3 a4 a5 a6) (dynamics_Times.f (k + 1) a0 a1 a2 a3 a4 a5 a6) := by
  intro a0 a1 a2 a3 a4 a5 a6 k
  have ih0 := dynamics_Times.mono_l k
  unfold dynamics_Times.f
  repeat' first
      | (with_reducible exact ih0 _ _ _)
      | (with_reducible exact dynamics_Speeds.mono _ _ _ _ _ _ _ _)
      | (with_reducible exact LeO.refl _)
      | (with_reducible exact LeO.none _)
      | (with_reducible refine LeO.ite ?_ ?_)
      | (with_reducible refine LeO.bind ?_ (fun _ => ?_))
      | exact ih0 _ _ _
      | exact dynamics_Speeds.mono _ _ _ _ _ _ _ _
      | exact LeO.none _
      | refine LeO.ite ?_ ?_
      | refine LeO.bind ?_ (fun _ => ?_)
set_option maxHeartbeats 8000000 in
set_option maxRecDepth 100000 in
theorem dynamics_Times.calls (k : Nat) (A0 : Option Addr) (c0 : Nat) (l0 : List (S34)) (a1 : Int) (a2_0 : ByteArray) (a2_1 : Int) (a2_2 : Int) (a2_3 : Int) (a2_4 : Int) (r1 : List Int) (r2 : Int) (w : World) (hr0 : Kd.C k34 w A0 l0.length l0) (hc0 : l0.length ≤ c0) (h : dynamics_Times.f k l0 a1 a2_0 a2_1 a2_2 a2_3 a2_4 = some (r1, r2)) :
    Calls Try.prog 19 #[.slice A0 l0.length c0, .int .i64 a1, .agg #[.string a2_0, .int .i64 a2_1, .int .i64 a2_2, .int .i64 a2_3, .int .i64 a2_4]] w fun e w' => ∃ v0_ : Value, e = .returned (.tuple #[v0_, .int .i64 r2]) ∧ Kd.R (Kd.int .i64) 3 w' w.heap.size (fun _ => True) v0_ r1 ∧ Below w.heap.size w w' := by
  have hu26 := Try.underlying26
  have HR0 := Aside0.mk hr0
  have HC0 := Aside0.mk hc0
  clear hr0 hc0
  have HB := Aside0.mk (Below.refl w.heap.size w)
  have H : ((dynamics_Speeds.f k l0 a1 a2_0 a2_1 a2_2 a2_3 a2_4).bind fun bt173 => (if bt173.2 = 0 then (dynamics_Times.l0 k bt173.1 (([0] : List Int)) 1) else (some (([] : List Int), bt173.2)))) = some (r1, r2) := h
  clear h
  replace H := Option.bind_eq_some_iff.mp H
  obtain ⟨⟨t173, t176⟩, A40, H⟩ := H
  replace H : (if t176 = 0 then (dynamics_Times.l0 k t173 (([0] : List Int)) 1) else (some (([] : List Int), t176))) = some (r1, r2) := H
  have A4 := Aside0.mk A40
  clear A40
  by_cases c5 : t176 = 0
  · rw [if_pos c5] at H
    have c5b0 : (t176 == 0) = true := beq_iff_eq.mpr c5
    have c5b1 : (t176 != 0) = false := bne_eq_false_iff_eq.mpr c5
    clear c5
    obtain ⟨y177, hy177⟩ : ∃ y_ : List Int, y_ = (([0] : List Int)) := ⟨_, rfl⟩
    replace H : (dynamics_Times.l0 k t173 y177 1) = some (r1, r2) := by first | (rw [hy177]; with_reducible exact H) | (have H2_ := (Option.bind_some _ _).symm.trans H; rw [hy177]; with_reducible exact H2_) | (have H2_ := (Option.bind_some _ _).symm.trans H; with_reducible exact H2_) | with_reducible exact H | (rw [hy177]; exact H) | exact H
    have Ny177 := Aside0.mk hy177
    clear hy177
    have H' := Aside0.mk H
    clear H
    go_enter Try.func19, Try.ntmps19
    go_wp2_with (first | ((with_reducible refine gate_dst (N := 5) rfl ?_); refine box_event ?hg (N := 5) ?hd (cs := #[.string a2_0, .int .i64 a2_1, .int .i64 a2_2, .int .i64 a2_3, .int .i64 a2_4]) (t := 26) ?hr ?_; (case hd => rfl); (case hg => rfl); (case hr => first | (go_simp; done) | (go_simp; rfl)); intro gb172 hg w6 hbox hb; have n0_ := Aside0.mk (below_step (by repeat (first | (with_reducible first | exact HB.out | apply below_alloc | apply pw_below_drewN | apply below_drew1) | exact HB.out)) hb); have n1_ := Aside0.mk (hbox); have n2_ := Aside0.mk ((by rw [hg]; exact (below_size (by repeat (first | (with_reducible first | exact HB.out | apply below_alloc | apply pw_below_drewN | apply below_drew1) | exact HB.out))) : w.heap.size ≤ gb172)); have n3_ := Aside0.mk ((by rw [hg]; exact (below_size (by repeat (first | (with_reducible first | exact HB.out | apply below_alloc | apply pw_below_drewN | apply below_drew1) | exact HB.out))) : w.heap.size ≤ gb172)); clear HB; have HB := n0_; have BK172 := n1_; have GW172 := n2_; have GE172 := n3_; clear n0_ n1_ n2_ n3_; clear hb hbox hg; have hcz7_0 : w6.cell? ⟨gb172, 0, none⟩ = some (.string a2_0) := (blk_cell BK172.out 0).trans rfl; have hcz7_1 : w6.cell? ⟨gb172, 1, none⟩ = some (.int .i64 a2_1) := (blk_cell BK172.out 1).trans rfl; have hcz7_2 : w6.cell? ⟨gb172, 2, none⟩ = some (.int .i64 a2_2) := (blk_cell BK172.out 2).trans rfl; have hcz7_3 : w6.cell? ⟨gb172, 3, none⟩ = some (.int .i64 a2_3) := (blk_cell BK172.out 3).trans rfl; have hcz7_4 : w6.cell? ⟨gb172, 4, none⟩ = some (.int .i64 a2_4) := (blk_cell BK172.out 4).trans rfl; have hfz7_0 := blk_frozen BK172.out 0; have hfz7_1 := blk_frozen BK172.out 1; have hfz7_2 := blk_frozen BK172.out 2; have hfz7_3 := blk_frozen BK172.out 3; have hfz7_4 := blk_frozen BK172.out 4) | (go_at_call 17; (with_reducible refine (dynamics_Speeds.calls k _ _ l0 a1 a2_0 a2_1 a2_2 a2_3 a2_4 t173 t176 _ ?side1 ?side2 A4.out).mono ?_); (case side1 => repeat (first | exact (Kd.C_below HR0.out HB.out) | (with_reducible refine Kd.C_alloc ?_ _) | (with_reducible refine Kd.C_drewN ?_ _) | (with_reducible refine Kd.C_drew ?_))); (case side2 => exact HC0.out); rintro e w8 ⟨v174, rfl, ho0, hb⟩; have n0_ := Aside0.mk (Kd.R_lower ho0 (below_size (by repeat (first | (with_reducible first | exact HB.out | apply below_alloc | apply pw_below_drewN | apply below_drew1 | refine below_set ?_ GE172.out) | exact HB.out)))); have n1_ := Aside0.mk (blk_below (g := gb172) (o := .cells #[.string a2_0, .int .i64 a2_1, .int .i64 a2_2, .int .i64 a2_3, .int .i64 a2_4] 26 (0, 0)) (by (with_reducible repeat (first | refine blk_drewN ?_ _ | refine blk_drew ?_ | refine blk_alloc ?_ _)); exact BK172.out) hb); have n2_ := Aside0.mk (below_step (by repeat (first | (with_reducible first | exact HB.out | apply below_alloc | apply pw_below_drewN | apply below_drew1 | refine below_set ?_ GE172.out) | exact HB.out)) hb); clear BK172; clear HB; have HO175 := n0_; have BK172 := n1_; have HB := n2_; clear n0_ n1_ n2_; (try clear hb); (try clear hb2); (try clear hk); (try clear hi); (try clear ho0)) | ((with_reducible refine gate_dst (N := 24) rfl ?_); refine Kd.R_lit (Kd.int .i64) _ 3 ?hg (N := 24) ?hd (xs := ([0] : List Int)) (inner := [.int .i64 0]) (ok := fun _ => True) (okp := fun _ => True) ?hr ?hp (fun _ hk => hk) trivial (Below.refl _ _) (Nat.le_refl _) (by simp) ?_; (case hd => rfl); (case hg => rfl); (case hr => first | (go_simp; done) | (go_simp; rfl)); (case hp => exact (Reps.one (show Kd.M (Kd.int .i64) _ _ _ 0 [.int .i64 0] from rfl) (Reps.none _ _))); intro v178 w9 ho10 hb hg_ hnew_; clear hg_ hnew_; (first | rw [← Ny177.out] at ho10 | (simp only [Int.reduceToNat] at ho10; rw [← Ny177.out] at ho10)); have n0_ := Aside0.mk (Kd.R_elder' (by (with_reducible repeat (first | apply Kd.R_alloc | apply Kd.R_drewN | apply Kd.R_drew)); exact HO175.out) (Kd.R_base ho10) hb); have n1_ := Aside0.mk (Kd.R_lower (Kd.R_new' ho10 (Kd.R_lt (by (with_reducible repeat (first | apply Kd.R_alloc | apply Kd.R_drewN | apply Kd.R_drew)); exact HO175.out))) (below_size (by repeat (first | (with_reducible first | exact HB.out | apply below_alloc | apply pw_below_drewN | apply below_drew1 | refine below_set ?_ GE172.out) | exact HB.out)))); have n2_ := Aside0.mk (blk_below (g := gb172) (o := .cells #[.string a2_0, .int .i64 a2_1, .int .i64 a2_2, .int .i64 a2_3, .int .i64 a2_4] 26 (0, 0)) (by (with_reducible repeat (first | refine blk_drewN ?_ _ | refine blk_drew ?_ | refine blk_alloc ?_ _)); exact BK172.out) hb); have n3_ := Aside0.mk (below_step (by repeat (first | (with_reducible first | exact HB.out | apply below_alloc | apply pw_below_drewN | apply below_drew1 | refine below_set ?_ GE172.out) | exact HB.out)) hb); clear HO175; clear BK172; clear HB; have HO175 := n0_; have HO179 := n1_; have BK172 := n2_; have HB := n3_; clear n0_ n1_ n2_ n3_; clear hb ho10))
    repeat (go_quiet (first | ((with_reducible refine gate_dst (N := 5) rfl ?_); refine box_event ?hg (N := 5) ?hd (cs := #[.string a2_0, .int .i64 a2_1, .int .i64 a2_2, .int .i64 a2_3, .int .i64 a2_4]) (t := 26) ?hr ?_; (case hd => rfl); (case hg => rfl); (case hr => first | (go_simp; done) | (go_simp; rfl)); intro gb172 hg w6 hbox hb; have n0_ := Aside0.mk (below_step (by repeat (first | (with_reducible first | exact HB.out | apply below_alloc | apply pw_below_drewN | apply below_drew1) | exact HB.out)) hb); have n1_ := Aside0.mk (hbox); have n2_ := Aside0.mk ((by rw [hg]; exact (below_size (by repeat (first | (with_reducible first | exact HB.out | apply below_alloc | apply pw_below_drewN | apply below_drew1) | exact HB.out))) : w.heap.size ≤ gb172)); have n3_ := Aside0.mk ((by rw [hg]; exact (below_size (by repeat (first | (with_reducible first | exact HB.out | apply below_alloc | apply pw_below_drewN | apply below_drew1) | exact HB.out))) : w.heap.size ≤ gb172)); clear HB; have HB := n0_; have BK172 := n1_; have GW172 := n2_; have GE172 := n3_; clear n0_ n1_ n2_ n3_; clear hb hbox hg; have hcz7_0 : w6.cell? ⟨gb172, 0, none⟩ = some (.string a2_0) := (blk_cell BK172.out 0).trans rfl; have hcz7_1 : w6.cell? ⟨gb172, 1, none⟩ = some (.int .i64 a2_1) := (blk_cell BK172.out 1).trans rfl; have hcz7_2 : w6.cell? ⟨gb172, 2, none⟩ = some (.int .i64 a2_2) := (blk_cell BK172.out 2).trans rfl; have hcz7_3 : w6.cell? ⟨gb172, 3, none⟩ = some (.int .i64 a2_3) := (blk_cell BK172.out 3).trans rfl; have hcz7_4 : w6.cell? ⟨gb172, 4, none⟩ = some (.int .i64 a2_4) := (blk_cell BK172.out 4).trans rfl; have hfz7_0 := blk_frozen BK172.out 0; have hfz7_1 := blk_frozen BK172.out 1; have hfz7_2 := blk_frozen BK172.out 2; have hfz7_3 := blk_frozen BK172.out 3; have hfz7_4 := blk_frozen BK172.out 4) | (go_at_call 17; (with_reducible refine (dynamics_Speeds.calls k _ _ l0 a1 a2_0 a2_1 a2_2 a2_3 a2_4 t173 t176 _ ?side1 ?side2 A4.out).mono ?_); (case side1 => repeat (first | exact (Kd.C_below HR0.out HB.out) | (with_reducible refine Kd.C_alloc ?_ _) | (with_reducible refine Kd.C_drewN ?_ _) | (with_reducible refine Kd.C_drew ?_))); (case side2 => exact HC0.out); rintro e w8 ⟨v174, rfl, ho0, hb⟩; have n0_ := Aside0.mk (Kd.R_lower ho0 (below_size (by repeat (first | (with_reducible first | exact HB.out | apply below_alloc | apply pw_below_drewN | apply below_drew1 | refine below_set ?_ GE172.out) | exact HB.out)))); have n1_ := Aside0.mk (blk_below (g := gb172) (o := .cells #[.string a2_0, .int .i64 a2_1, .int .i64 a2_2, .int .i64 a2_3, .int .i64 a2_4] 26 (0, 0)) (by (with_reducible repeat (first | refine blk_drewN ?_ _ | refine blk_drew ?_ | refine blk_alloc ?_ _)); exact BK172.out) hb); have n2_ := Aside0.mk (below_step (by repeat (first | (with_reducible first | exact HB.out | apply below_alloc | apply pw_below_drewN | apply below_drew1 | refine below_set ?_ GE172.out) | exact HB.out)) hb); clear BK172; clear HB; have HO175 := n0_; have BK172 := n1_; have HB := n2_; clear n0_ n1_ n2_; (try clear hb); (try clear hb2); (try clear hk); (try clear hi); (try clear ho0)) | ((with_reducible refine gate_dst (N := 24) rfl ?_); refine Kd.R_lit (Kd.int .i64) _ 3 ?hg (N := 24) ?hd (xs := ([0] : List Int)) (inner := [.int .i64 0]) (ok := fun _ => True) (okp := fun _ => True) ?hr ?hp (fun _ hk => hk) trivial (Below.refl _ _) (Nat.le_refl _) (by simp) ?_; (case hd => rfl); (case hg => rfl); (case hr => first | (go_simp; done) | (go_simp; rfl)); (case hp => exact (Reps.one (show Kd.M (Kd.int .i64) _ _ _ 0 [.int .i64 0] from rfl) (Reps.none _ _))); intro v178 w9 ho10 hb hg_ hnew_; clear hg_ hnew_; (first | rw [← Ny177.out] at ho10 | (simp only [Int.reduceToNat] at ho10; rw [← Ny177.out] at ho10)); have n0_ := Aside0.mk (Kd.R_elder' (by (with_reducible repeat (first | apply Kd.R_alloc | apply Kd.R_drewN | apply Kd.R_drew)); exact HO175.out) (Kd.R_base ho10) hb); have n1_ := Aside0.mk (Kd.R_lower (Kd.R_new' ho10 (Kd.R_lt (by (with_reducible repeat (first | apply Kd.R_alloc | apply Kd.R_drewN | apply Kd.R_drew)); exact HO175.out))) (below_size (by repeat (first | (with_reducible first | exact HB.out | apply below_alloc | apply pw_below_drewN | apply below_drew1 | refine below_set ?_ GE172.out) | exact HB.out)))); have n2_ := Aside0.mk (blk_below (g := gb172) (o := .cells #[.string a2_0, .int .i64 a2_1, .int .i64 a2_2, .int .i64 a2_3, .int .i64 a2_4] 26 (0, 0)) (by (with_reducible repeat (first | refine blk_drewN ?_ _ | refine blk_drew ?_ | refine blk_alloc ?_ _)); exact BK172.out) hb); have n3_ := Aside0.mk (below_step (by repeat (first | (with_reducible first | exact HB.out | apply below_alloc | apply pw_below_drewN | apply below_drew1 | refine below_set ?_ GE172.out) | exact HB.out)) hb); clear HO175; clear BK172; clear HB; have HO175 := n0_; have HO179 := n1_; have BK172 := n2_; have HB := n3_; clear n0_ n1_ n2_ n3_; clear hb ho10)); try go_wp2_with (first | ((with_reducible refine gate_dst (N := 5) rfl ?_); refine box_event ?hg (N := 5) ?hd (cs := #[.string a2_0, .int .i64 a2_1, .int .i64 a2_2, .int .i64 a2_3, .int .i64 a2_4]) (t := 26) ?hr ?_; (case hd => rfl); (case hg => rfl); (case hr => first | (go_simp; done) | (go_simp; rfl)); intro gb172 hg w6 hbox hb; have n0_ := Aside0.mk (below_step (by repeat (first | (with_reducible first | exact HB.out | apply below_alloc | apply pw_below_drewN | apply below_drew1) | exact HB.out)) hb); have n1_ := Aside0.mk (hbox); have n2_ := Aside0.mk ((by rw [hg]; exact (below_size (by repeat (first | (with_reducible first | exact HB.out | apply below_alloc | apply pw_below_drewN | apply below_drew1) | exact HB.out))) : w.heap.size ≤ gb172)); have n3_ := Aside0.mk ((by rw [hg]; exact (below_size (by repeat (first | (with_reducible first | exact HB.out | apply below_alloc | apply pw_below_drewN | apply below_drew1) | exact HB.out))) : w.heap.size ≤ gb172)); clear HB; have HB := n0_; have BK172 := n1_; have GW172 := n2_; have GE172 := n3_; clear n0_ n1_ n2_ n3_; clear hb hbox hg; have hcz7_0 : w6.cell? ⟨gb172, 0, none⟩ = some (.string a2_0) := (blk_cell BK172.out 0).trans rfl; have hcz7_1 : w6.cell? ⟨gb172, 1, none⟩ = some (.int .i64 a2_1) := (blk_cell BK172.out 1).trans rfl; have hcz7_2 : w6.cell? ⟨gb172, 2, none⟩ = some (.int .i64 a2_2) := (blk_cell BK172.out 2).trans rfl; have hcz7_3 : w6.cell? ⟨gb172, 3, none⟩ = some (.int .i64 a2_3) := (blk_cell BK172.out 3).trans rfl; have hcz7_4 : w6.cell? ⟨gb172, 4, none⟩ = some (.int .i64 a2_4) := (blk_cell BK172.out 4).trans rfl; have hfz7_0 := blk_frozen BK172.out 0; have hfz7_1 := blk_frozen BK172.out 1; have hfz7_2 := blk_frozen BK172.out 2; have hfz7_3 := blk_frozen BK172.out 3; have hfz7_4 := blk_frozen BK172.out 4) | (go_at_call 17; (with_reducible refine (dynamics_Speeds.calls k _ _ l0 a1 a2_0 a2_1 a2_2 a2_3 a2_4 t173 t176 _ ?side1 ?side2 A4.out).mono ?_); (case side1 => repeat (first | exact (Kd.C_below HR0.out HB.out) | (with_reducible refine Kd.C_alloc ?_ _) | (with_reducible refine Kd.C_drewN ?_ _) | (with_reducible refine Kd.C_drew ?_))); (case side2 => exact HC0.out); rintro e w8 ⟨v174, rfl, ho0, hb⟩; have n0_ := Aside0.mk (Kd.R_lower ho0 (below_size (by repeat (first | (with_reducible first | exact HB.out | apply below_alloc | apply pw_below_drewN | apply below_drew1 | refine below_set ?_ GE172.out) | exact HB.out)))); have n1_ := Aside0.mk (blk_below (g := gb172) (o := .cells #[.string a2_0, .int .i64 a2_1, .int .i64 a2_2, .int .i64 a2_3, .int .i64 a2_4] 26 (0, 0)) (by (with_reducible repeat (first | refine blk_drewN ?_ _ | refine blk_drew ?_ | refine blk_alloc ?_ _)); exact BK172.out) hb); have n2_ := Aside0.mk (below_step (by repeat (first | (with_reducible first | exact HB.out | apply below_alloc | apply pw_below_drewN | apply below_drew1 | refine below_set ?_ GE172.out) | exact HB.out)) hb); clear BK172; clear HB; have HO175 := n0_; have BK172 := n1_; have HB := n2_; clear n0_ n1_ n2_; (try clear hb); (try clear hb2); (try clear hk); (try clear hi); (try clear ho0)) | ((with_reducible refine gate_dst (N := 24) rfl ?_); refine Kd.R_lit (Kd.int .i64) _ 3 ?hg (N := 24) ?hd (xs := ([0] : List Int)) (inner := [.int .i64 0]) (ok := fun _ => True) (okp := fun _ => True) ?hr ?hp (fun _ hk => hk) trivial (Below.refl _ _) (Nat.le_refl _) (by simp) ?_; (case hd => rfl); (case hg => rfl); (case hr => first | (go_simp; done) | (go_simp; rfl)); (case hp => exact (Reps.one (show Kd.M (Kd.int .i64) _ _ _ 0 [.int .i64 0] from rfl) (Reps.none _ _))); intro v178 w9 ho10 hb hg_ hnew_; clear hg_ hnew_; (first | rw [← Ny177.out] at ho10 | (simp only [Int.reduceToNat] at ho10; rw [← Ny177.out] at ho10)); have n0_ := Aside0.mk (Kd.R_elder' (by (with_reducible repeat (first | apply Kd.R_alloc | apply Kd.R_drewN | apply Kd.R_drew)); exact HO175.out) (Kd.R_base ho10) hb); have n1_ := Aside0.mk (Kd.R_lower (Kd.R_new' ho10 (Kd.R_lt (by (with_reducible repeat (first | apply Kd.R_alloc | apply Kd.R_drewN | apply Kd.R_drew)); exact HO175.out))) (below_size (by repeat (first | (with_reducible first | exact HB.out | apply below_alloc | apply pw_below_drewN | apply below_drew1 | refine below_set ?_ GE172.out) | exact HB.out)))); have n2_ := Aside0.mk (blk_below (g := gb172) (o := .cells #[.string a2_0, .int .i64 a2_1, .int .i64 a2_2, .int .i64 a2_3, .int .i64 a2_4] 26 (0, 0)) (by (with_reducible repeat (first | refine blk_drewN ?_ _ | refine blk_drew ?_ | refine blk_alloc ?_ _)); exact BK172.out) hb); have n3_ := Aside0.mk (below_step (by repeat (first | (with_reducible first | exact HB.out | apply below_alloc | apply pw_below_drewN | apply below_drew1 | refine below_set ?_ GE172.out) | exact HB.out)) hb); clear HO175; clear BK172; clear HB; have HO175 := n0_; have HO179 := n1_; have BK172 := n2_; have HB := n3_; clear n0_ n1_ n2_ n3_; clear hb ho10)))
    go_loopg [10, 11] k (fun kq v10 v11 w' => ∃ (x10_1 : List Int) (x11_1 : Int), v11 = .int .i64 x11_1 ∧ Aside0 (dynamics_Times.l0 kq t173 x10_1 x11_1 = some (r1, r2)) ∧ Aside0 (kq ≤ k) ∧ Aside0 (Kd.R (Kd.int .i64) 3 w' w.heap.size (fun k_ => some k_ ≠ (v10 : Value).ownBlock) v174 t173) ∧ Aside0 (Kd.R (Kd.int .i64) 3 w' w.heap.size (fun k_ => some k_ ≠ (v174 : Value).ownBlock) v10 x10_1) ∧ Aside0 (w'.heap[gb172]? = some (.cells #[.string a2_0, .int .i64 a2_1, .int .i64 a2_2, .int .i64 a2_3, .int .i64 a2_4] 26 (0, 0))) ∧ Aside0 (Below w.heap.size w w'))
    case atStart => exact ⟨(y177), (1), (by first | rfl | (simp; done) | (simp [*]; done)), H', ⟨Nat.le_refl _⟩, ⟨by (with_reducible repeat (first | apply Kd.R_alloc | apply Kd.R_drewN | apply Kd.R_drew)); exact Kd.R_mono HO175.out (fun _ hk => hk.2)⟩, ⟨by (with_reducible repeat (first | apply Kd.R_alloc | apply Kd.R_drewN | apply Kd.R_drew)); exact Kd.R_mono HO179.out (fun _ hk => hk.2)⟩, ⟨by (with_reducible repeat (first | refine blk_drewN ?_ _ | refine blk_drew ?_ | refine blk_alloc ?_ _)); exact BK172.out⟩, ⟨by repeat (first | (with_reducible first | exact HB.out | apply below_alloc | apply pw_below_drewN | apply below_drew1 | refine below_set ?_ GE172.out) | exact HB.out)⟩⟩
    case round =>
      clear H'
      try clear c1
      try clear p2
      try clear c5
      try clear c5b0
      try clear c5b1
      try clear hcz7_0
      try clear hcz7_1
      try clear hcz7_2
      try clear hcz7_3
      try clear hcz7_4
      try clear hfz7_0
      try clear hfz7_1
      try clear hfz7_2
      try clear hfz7_3
      try clear hfz7_4
      obtain ⟨x10_1, x11_1, rfl, HA, HK1, HO_8, HO_10, BK172, HB⟩ := hrel
      cases gk with
      | zero => exact absurd HA.out (by simp [dynamics_Times.l0])
      | succ k1 =>
        have H := HA.out
        clear HA
        simp only [dynamics_Times.l0] at H
        by_cases c11 : x11_1 < (t173.length : Int)
        · rw [if_pos c11] at H
          have c11b0 : decide (x11_1 < (t173.length : Int)) = true := decide_eq_true c11
          clear c11
          obtain ⟨ji12, hji12⟩ : ∃ j_ : Int, (wrap64 (x11_1 - 1)) = j_ := ⟨_, rfl⟩
          replace H : (if 0 ≤ (ji12) then (if (ji12) < (t173.length : Int) then (if 0 ≤ x11_1 then ((arith_CeilDiv.f 20000000 (wrap64 ((rd t173 (ji12)) + (rd t173 x11_1)))).bind fun bt182 => (if (ji12) < (x10_1.length : Int) then (if x10_1.length < 17592186044416 then (dynamics_Times.l0 k1 t173 (x10_1 ++ [wrap64 ((rd x10_1 (ji12)) + bt182.1)]) (wrap64 (x11_1 + 1))) else (none)) else (none))) else (none)) else (none)) else (none)) = some (r1, r2) := by first | (rw [hji12] at H; exact H) | (simp only [hji12] at H ⊢; exact H)
          have hji12w : (IntKind.i64.wrap (x11_1 - 1)) = ji12 := (i64_w _).trans hji12
          by_cases c13 : 0 ≤ (ji12)
          · rw [if_pos c13] at H
            have c13b0 : decide (0 ≤ (ji12)) = true := decide_eq_true c13
            clear c13
            by_cases c14 : (ji12) < (t173.length : Int)
            · rw [if_pos c14] at H
              have c14b0 : decide ((ji12) < (t173.length : Int)) = true := decide_eq_true c14
              clear c14
              by_cases c15 : 0 ≤ x11_1
              · rw [if_pos c15] at H
                have c15b0 : decide (0 ≤ x11_1) = true := decide_eq_true c15
                clear c15
                replace H := Option.bind_eq_some_iff.mp H
                obtain ⟨⟨t182, t183⟩, A160, H⟩ := H
                replace H : (if (ji12) < (x10_1.length : Int) then (if x10_1.length < 17592186044416 then (dynamics_Times.l0 k1 t173 (x10_1 ++ [wrap64 ((rd x10_1 (ji12)) + t182)]) (wrap64 (x11_1 + 1))) else (none)) else (none)) = some (r1, r2) := H
                have A16 := Aside0.mk A160
                clear A160
                by_cases c17 : (ji12) < (x10_1.length : Int)
                · rw [if_pos c17] at H
                  have c17b0 : decide ((ji12) < (x10_1.length : Int)) = true := decide_eq_true c17
                  clear c17
                  by_cases c18 : x10_1.length < 17592186044416
                  · rw [if_pos c18] at H
                    have LMc18 := Aside0.mk c18
                    clear c18
                    obtain ⟨y185, hy185⟩ : ∃ y_ : List Int, y_ = (x10_1 ++ [wrap64 ((rd x10_1 (ji12)) + t182)]) := ⟨_, rfl⟩
                    replace H : (dynamics_Times.l0 k1 t173 y185 (wrap64 (x11_1 + 1))) = some (r1, r2) := by first | (rw [hy185]; with_reducible exact H) | (have H2_ := (Option.bind_some _ _).symm.trans H; rw [hy185]; with_reducible exact H2_) | (have H2_ := (Option.bind_some _ _).symm.trans H; with_reducible exact H2_) | with_reducible exact H | (rw [hy185]; exact H) | exact H
                    have Ny185 := Aside0.mk hy185
                    clear hy185
                    have H' := Aside0.mk H
                    clear H
                    obtain ⟨Ao19, co19, eo19⟩ := Kd.R_slice HO_8.out
                    subst eo19
                    have p180 : 0 ≤ ((ji12) : Int) := of_decide_eq_true (by first | (with_reducible assumption) | assumption)
                    have q180 : (ji12) < (t173.length : Int) := of_decide_eq_true (by first | (with_reducible assumption) | assumption)
                    obtain ⟨ad180, e180, hx180_0⟩ := Kd.at_int (Kd.R_reads' HO_8.out).2.2 (ji12) p180 q180
                    cases e180
                    replace p180 := eq_true p180
                    replace q180 := eq_true q180
                    have p181 : 0 ≤ (x11_1 : Int) := of_decide_eq_true (by first | (with_reducible assumption) | assumption)
                    have q181 : x11_1 < (t173.length : Int) := of_decide_eq_true (by first | (with_reducible assumption) | assumption)
                    obtain ⟨ad181, e181, hx181_0⟩ := Kd.at_int (Kd.R_reads' HO_8.out).2.2 x11_1 p181 q181
                    obtain rfl : ad180 = ad181 := (by injection e181)
                    replace p181 := eq_true p181
                    replace q181 := eq_true q181
                    have hs_1 : (IntKind.i64.wrap ((rd t173 (ji12)) + (rd t173 x11_1))) = wrap64 ((rd t173 (ji12)) + (rd t173 x11_1)) := i64_w _
                    go_wp2_with (first | (go_at_call 31; (with_reducible refine (arith_CeilDiv.calls 20000000 (wrap64 ((rd t173 (ji12)) + (rd t173 x11_1))) t182 t183 _ A16.out).mono ?_); rintro e w' ⟨rfl, ⟨nd, rfl⟩⟩; (try first | exact ⟨rfl, _, World.drewN_drewN _ _ _⟩ | exact ⟨rfl, _, Eq.trans (World.drewN_drewN _ _ _) (congrArg (World.drewN _) (Nat.add_assoc _ _ _))⟩); obtain ⟨Ao20, co20, eo20⟩ := Kd.R_slice HO_10.out; subst eo20; have p184 : 0 ≤ ((ji12) : Int) := of_decide_eq_true (by first | (with_reducible assumption) | assumption); have q184 : (ji12) < (x10_1.length : Int) := of_decide_eq_true (by first | (with_reducible assumption) | assumption); obtain ⟨ad184, e184, hx184_0⟩ := Kd.at_int (Kd.R_reads' HO_10.out).2.2 (ji12) p184 q184; cases e184; replace p184 := eq_true p184; replace q184 := eq_true q184) | ((with_reducible refine gate_builtin (b := .append) (xs := #[.tmp 45, .tmp 53]) rfl ?_); at_builtin; refine Kd.R_append (Kd.int .i64) (w0 := w) w.heap.size rfl (.tmp 45) (.tmp 53) 22 3 (.int .i64 0) 8 rfl Try.underlying22 info3 rfl (by decide) (by omega) (.slice (some ad184) x10_1.length co20) x10_1 (wrap64 ((rd x10_1 (ji12)) + t182)) [.int .i64 (wrap64 ((rd x10_1 (ji12)) + t182))] (fun k_ => some k_ ≠ (.slice (some ad180) t173.length co19 : Value).ownBlock) (fun _ => False) rfl rfl ?aP (fun _ hk => hk.elim) ?aF ?aO ?aB ?aS ?aL ?_; (case aP => exact rfl); (case aB => exact (by repeat (first | (with_reducible first | exact HB.out | apply below_alloc | apply pw_below_drewN | apply below_drew1 | refine below_set ?_ GE172.out) | exact HB.out))); (case aF => exact (fun k_ hk => Kd.fresh' (Kd.R_lt (by (with_reducible repeat (first | apply Kd.R_alloc | apply Kd.R_drewN | apply Kd.R_drew)); exact HO_8.out)) k_ hk)); (case aO => exact (by (with_reducible repeat (first | apply Kd.R_alloc | apply Kd.R_drewN | apply Kd.R_drew)); exact HO_10.out)); (case aS => exact (below_size (by repeat (first | (with_reducible first | exact HB.out | apply below_alloc | apply pw_below_drewN | apply below_drew1 | refine below_set ?_ GE172.out) | exact HB.out)))); (case aL => have := LMc18.out; omega); intro v186 w21 ho hb hg hat; rw [← Ny185.out] at ho; have n0_ := Aside0.mk (Kd.R_after (ok := (fun _ => True)) (by (with_reducible repeat (first | apply Kd.R_alloc | apply Kd.R_drewN | apply Kd.R_drew)); exact Kd.R_mono HO_8.out (fun _ hk => ⟨trivial, hk⟩)) hg hat); have n1_ := Aside0.mk (blk_grown (g := gb172) (o := .cells #[.string a2_0, .int .i64 a2_1, .int .i64 a2_2, .int .i64 a2_3, .int .i64 a2_4] 26 (0, 0)) (by (with_reducible repeat (first | refine blk_drewN ?_ _ | refine blk_drew ?_ | refine blk_alloc ?_ _)); exact BK172.out) hg (Kd.R_ne HO_10.out BK172.out (by decide))); have n2_ := Aside0.mk (hb); have n3_ := Aside0.mk (ho); clear HO_8; clear BK172; clear HB; clear HO_10; have HO_8 := n0_; have BK172 := n1_; have HB := n2_; have HO187 := n3_; clear n0_ n1_ n2_ n3_; clear ho hb hg hat))
                    repeat (go_quiet (first | (go_at_call 31; (with_reducible refine (arith_CeilDiv.calls 20000000 (wrap64 ((rd t173 (ji12)) + (rd t173 x11_1))) t182 t183 _ A16.out).mono ?_); rintro e w' ⟨rfl, ⟨nd, rfl⟩⟩; (try first | exact ⟨rfl, _, World.drewN_drewN _ _ _⟩ | exact ⟨rfl, _, Eq.trans (World.drewN_drewN _ _ _) (congrArg (World.drewN _) (Nat.add_assoc _ _ _))⟩); obtain ⟨Ao20, co20, eo20⟩ := Kd.R_slice HO_10.out; subst eo20; have p184 : 0 ≤ ((ji12) : Int) := of_decide_eq_true (by first | (with_reducible assumption) | assumption); have q184 : (ji12) < (x10_1.length : Int) := of_decide_eq_true (by first | (with_reducible assumption) | assumption); obtain ⟨ad184, e184, hx184_0⟩ := Kd.at_int (Kd.R_reads' HO_10.out).2.2 (ji12) p184 q184; cases e184; replace p184 := eq_true p184; replace q184 := eq_true q184) | ((with_reducible refine gate_builtin (b := .append) (xs := #[.tmp 45, .tmp 53]) rfl ?_); at_builtin; refine Kd.R_append (Kd.int .i64) (w0 := w) w.heap.size rfl (.tmp 45) (.tmp 53) 22 3 (.int .i64 0) 8 rfl Try.underlying22 info3 rfl (by decide) (by omega) (.slice (some ad184) x10_1.length co20) x10_1 (wrap64 ((rd x10_1 (ji12)) + t182)) [.int .i64 (wrap64 ((rd x10_1 (ji12)) + t182))] (fun k_ => some k_ ≠ (.slice (some ad180) t173.length co19 : Value).ownBlock) (fun _ => False) rfl rfl ?aP (fun _ hk => hk.elim) ?aF ?aO ?aB ?aS ?aL ?_; (case aP => exact rfl); (case aB => exact (by repeat (first | (with_reducible first | exact HB.out | apply below_alloc | apply pw_below_drewN | apply below_drew1 | refine below_set ?_ GE172.out) | exact HB.out))); (case aF => exact (fun k_ hk => Kd.fresh' (Kd.R_lt (by (with_reducible repeat (first | apply Kd.R_alloc | apply Kd.R_drewN | apply Kd.R_drew)); exact HO_8.out)) k_ hk)); (case aO => exact (by (with_reducible repeat (first | apply Kd.R_alloc | apply Kd.R_drewN | apply Kd.R_drew)); exact HO_10.out)); (case aS => exact (below_size (by repeat (first | (with_reducible first | exact HB.out | apply below_alloc | apply pw_below_drewN | apply below_drew1 | refine below_set ?_ GE172.out) | exact HB.out)))); (case aL => have := LMc18.out; omega); intro v186 w21 ho hb hg hat; rw [← Ny185.out] at ho; have n0_ := Aside0.mk (Kd.R_after (ok := (fun _ => True)) (by (with_reducible repeat (first | apply Kd.R_alloc | apply Kd.R_drewN | apply Kd.R_drew)); exact Kd.R_mono HO_8.out (fun _ hk => ⟨trivial, hk⟩)) hg hat); have n1_ := Aside0.mk (blk_grown (g := gb172) (o := .cells #[.string a2_0, .int .i64 a2_1, .int .i64 a2_2, .int .i64 a2_3, .int .i64 a2_4] 26 (0, 0)) (by (with_reducible repeat (first | refine blk_drewN ?_ _ | refine blk_drew ?_ | refine blk_alloc ?_ _)); exact BK172.out) hg (Kd.R_ne HO_10.out BK172.out (by decide))); have n2_ := Aside0.mk (hb); have n3_ := Aside0.mk (ho); clear HO_8; clear BK172; clear HB; clear HO_10; have HO_8 := n0_; have BK172 := n1_; have HB := n2_; have HO187 := n3_; clear n0_ n1_ n2_ n3_; clear ho hb hg hat)); try go_wp2_with (first | (go_at_call 31; (with_reducible refine (arith_CeilDiv.calls 20000000 (wrap64 ((rd t173 (ji12)) + (rd t173 x11_1))) t182 t183 _ A16.out).mono ?_); rintro e w' ⟨rfl, ⟨nd, rfl⟩⟩; (try first | exact ⟨rfl, _, World.drewN_drewN _ _ _⟩ | exact ⟨rfl, _, Eq.trans (World.drewN_drewN _ _ _) (congrArg (World.drewN _) (Nat.add_assoc _ _ _))⟩); obtain ⟨Ao20, co20, eo20⟩ := Kd.R_slice HO_10.out; subst eo20; have p184 : 0 ≤ ((ji12) : Int) := of_decide_eq_true (by first | (with_reducible assumption) | assumption); have q184 : (ji12) < (x10_1.length : Int) := of_decide_eq_true (by first | (with_reducible assumption) | assumption); obtain ⟨ad184, e184, hx184_0⟩ := Kd.at_int (Kd.R_reads' HO_10.out).2.2 (ji12) p184 q184; cases e184; replace p184 := eq_true p184; replace q184 := eq_true q184) | ((with_reducible refine gate_builtin (b := .append) (xs := #[.tmp 45, .tmp 53]) rfl ?_); at_builtin; refine Kd.R_append (Kd.int .i64) (w0 := w) w.heap.size rfl (.tmp 45) (.tmp 53) 22 3 (.int .i64 0) 8 rfl Try.underlying22 info3 rfl (by decide) (by omega) (.slice (some ad184) x10_1.length co20) x10_1 (wrap64 ((rd x10_1 (ji12)) + t182)) [.int .i64 (wrap64 ((rd x10_1 (ji12)) + t182))] (fun k_ => some k_ ≠ (.slice (some ad180) t173.length co19 : Value).ownBlock) (fun _ => False) rfl rfl ?aP (fun _ hk => hk.elim) ?aF ?aO ?aB ?aS ?aL ?_; (case aP => exact rfl); (case aB => exact (by repeat (first | (with_reducible first | exact HB.out | apply below_alloc | apply pw_below_drewN | apply below_drew1 | refine below_set ?_ GE172.out) | exact HB.out))); (case aF => exact (fun k_ hk => Kd.fresh' (Kd.R_lt (by (with_reducible repeat (first | apply Kd.R_alloc | apply Kd.R_drewN | apply Kd.R_drew)); exact HO_8.out)) k_ hk)); (case aO => exact (by (with_reducible repeat (first | apply Kd.R_alloc | apply Kd.R_drewN | apply Kd.R_drew)); exact HO_10.out)); (case aS => exact (below_size (by repeat (first | (with_reducible first | exact HB.out | apply below_alloc | apply pw_below_drewN | apply below_drew1 | refine below_set ?_ GE172.out) | exact HB.out)))); (case aL => have := LMc18.out; omega); intro v186 w21 ho hb hg hat; rw [← Ny185.out] at ho; have n0_ := Aside0.mk (Kd.R_after (ok := (fun _ => True)) (by (with_reducible repeat (first | apply Kd.R_alloc | apply Kd.R_drewN | apply Kd.R_drew)); exact Kd.R_mono HO_8.out (fun _ hk => ⟨trivial, hk⟩)) hg hat); have n1_ := Aside0.mk (blk_grown (g := gb172) (o := .cells #[.string a2_0, .int .i64 a2_1, .int .i64 a2_2, .int .i64 a2_3, .int .i64 a2_4] 26 (0, 0)) (by (with_reducible repeat (first | refine blk_drewN ?_ _ | refine blk_drew ?_ | refine blk_alloc ?_ _)); exact BK172.out) hg (Kd.R_ne HO_10.out BK172.out (by decide))); have n2_ := Aside0.mk (hb); have n3_ := Aside0.mk (ho); clear HO_8; clear BK172; clear HB; clear HO_10; have HO_8 := n0_; have BK172 := n1_; have HB := n2_; have HO187 := n3_; clear n0_ n1_ n2_ n3_; clear ho hb hg hat)))
                    go_roundg k1
                    case measure => have := HK1.out; omega
                    case rel => exact ⟨(y185), (wrap64 (x11_1 + 1)), (by first | rfl | (simp; done) | (simp [*]; done)), H', ⟨by have := HK1.out; omega⟩, ⟨by (with_reducible repeat (first | apply Kd.R_alloc | apply Kd.R_drewN | apply Kd.R_drew)); exact Kd.R_mono HO_8.out (fun _ hk => hk.2)⟩, ⟨by (with_reducible repeat (first | apply Kd.R_alloc | apply Kd.R_drewN | apply Kd.R_drew)); exact HO187.out⟩, ⟨by (with_reducible repeat (first | refine blk_drewN ?_ _ | refine blk_drew ?_ | refine blk_alloc ?_ _)); exact BK172.out⟩, ⟨by repeat (first | (with_reducible first | exact HB.out | apply below_alloc | apply pw_below_drewN | apply below_drew1 | refine below_set ?_ GE172.out) | exact HB.out)⟩⟩
                  · rw [if_neg c18] at H
                    exact absurd H (by simp)
                · rw [if_neg c17] at H
                  exact absurd H (by simp)
              · rw [if_neg c15] at H
                exact absurd H (by simp)
            · rw [if_neg c14] at H
              exact absurd H (by simp)
          · rw [if_neg c13] at H
            exact absurd H (by simp)
        · rw [if_neg c11] at H
          have c11b0 : decide (x11_1 < (t173.length : Int)) = false := decide_eq_false c11
          clear c11
          simp only [Option.some.injEq, Prod.mk.injEq] at H
          obtain ⟨rfl, rfl⟩ := H
          obtain ⟨Ao22, co22, eo22⟩ := Kd.R_slice HO_8.out
          subst eo22
          go_wp2
          repeat (go_quiet (fail); try go_wp2)
          go_ret2
          exact ⟨_, by first | rfl | (simp [errW_none, errW_some] <;> rfl) | (simp [*, errW_none, errW_some] <;> rfl), by (with_reducible repeat (first | apply Kd.R_alloc | apply Kd.R_drewN | apply Kd.R_drew)); exact Kd.R_mono HO_10.out (fun _ hk => trivial), by repeat (first | (with_reducible first | exact HB.out | apply below_alloc | apply pw_below_drewN | apply below_drew1 | refine below_set ?_ GE172.out) | exact HB.out)⟩
  · rw [if_neg c5] at H
    have c5b0 : (t176 == 0) = false := beq_eq_false_iff_ne.mpr c5
    have c5b1 : (t176 != 0) = true := bne_iff_ne.mpr c5
    simp only [Option.some.injEq, Prod.mk.injEq] at H
    obtain ⟨rfl, rfl⟩ := H
    go_enter Try.func19, Try.ntmps19
    go_wp2_with (first | ((with_reducible refine gate_dst (N := 5) rfl ?_); refine box_event ?hg (N := 5) ?hd (cs := #[.string a2_0, .int .i64 a2_1, .int .i64 a2_2, .int .i64 a2_3, .int .i64 a2_4]) (t := 26) ?hr ?_; (case hd => rfl); (case hg => rfl); (case hr => first | (go_simp; done) | (go_simp; rfl)); intro gb172 hg w23 hbox hb; have n0_ := Aside0.mk (below_step (by repeat (first | (with_reducible first | exact HB.out | apply below_alloc | apply pw_below_drewN | apply below_drew1) | exact HB.out)) hb); have n1_ := Aside0.mk (hbox); have n2_ := Aside0.mk ((by rw [hg]; exact (below_size (by repeat (first | (with_reducible first | exact HB.out | apply below_alloc | apply pw_below_drewN | apply below_drew1) | exact HB.out))) : w.heap.size ≤ gb172)); have n3_ := Aside0.mk ((by rw [hg]; exact (below_size (by repeat (first | (with_reducible first | exact HB.out | apply below_alloc | apply pw_below_drewN | apply below_drew1) | exact HB.out))) : w.heap.size ≤ gb172)); clear HB; have HB := n0_; have BK172 := n1_; have GW172 := n2_; have GE172 := n3_; clear n0_ n1_ n2_ n3_; clear hb hbox hg; have hcz24_0 : w23.cell? ⟨gb172, 0, none⟩ = some (.string a2_0) := (blk_cell BK172.out 0).trans rfl; have hcz24_1 : w23.cell? ⟨gb172, 1, none⟩ = some (.int .i64 a2_1) := (blk_cell BK172.out 1).trans rfl; have hcz24_2 : w23.cell? ⟨gb172, 2, none⟩ = some (.int .i64 a2_2) := (blk_cell BK172.out 2).trans rfl; have hcz24_3 : w23.cell? ⟨gb172, 3, none⟩ = some (.int .i64 a2_3) := (blk_cell BK172.out 3).trans rfl; have hcz24_4 : w23.cell? ⟨gb172, 4, none⟩ = some (.int .i64 a2_4) := (blk_cell BK172.out 4).trans rfl; have hfz24_0 := blk_frozen BK172.out 0; have hfz24_1 := blk_frozen BK172.out 1; have hfz24_2 := blk_frozen BK172.out 2; have hfz24_3 := blk_frozen BK172.out 3; have hfz24_4 := blk_frozen BK172.out 4) | (go_at_call 17; (with_reducible refine (dynamics_Speeds.calls k _ _ l0 a1 a2_0 a2_1 a2_2 a2_3 a2_4 t173 t176 _ ?side1 ?side2 A4.out).mono ?_); (case side1 => repeat (first | exact (Kd.C_below HR0.out HB.out) | (with_reducible refine Kd.C_alloc ?_ _) | (with_reducible refine Kd.C_drewN ?_ _) | (with_reducible refine Kd.C_drew ?_))); (case side2 => exact HC0.out); rintro e w25 ⟨v174, rfl, ho0, hb⟩; have n0_ := Aside0.mk (Kd.R_lower ho0 (below_size (by repeat (first | (with_reducible first | exact HB.out | apply below_alloc | apply pw_below_drewN | apply below_drew1 | refine below_set ?_ GE172.out) | exact HB.out)))); have n1_ := Aside0.mk (blk_below (g := gb172) (o := .cells #[.string a2_0, .int .i64 a2_1, .int .i64 a2_2, .int .i64 a2_3, .int .i64 a2_4] 26 (0, 0)) (by (with_reducible repeat (first | refine blk_drewN ?_ _ | refine blk_drew ?_ | refine blk_alloc ?_ _)); exact BK172.out) hb); have n2_ := Aside0.mk (below_step (by repeat (first | (with_reducible first | exact HB.out | apply below_alloc | apply pw_below_drewN | apply below_drew1 | refine below_set ?_ GE172.out) | exact HB.out)) hb); clear BK172; clear HB; have HO175 := n0_; have BK172 := n1_; have HB := n2_; clear n0_ n1_ n2_; (try clear hb); (try clear hb2); (try clear hk); (try clear hi); (try clear ho0)))
    repeat (go_quiet (first | ((with_reducible refine gate_dst (N := 5) rfl ?_); refine box_event ?hg (N := 5) ?hd (cs := #[.string a2_0, .int .i64 a2_1, .int .i64 a2_2, .int .i64 a2_3, .int .i64 a2_4]) (t := 26) ?hr ?_; (case hd => rfl); (case hg => rfl); (case hr => first | (go_simp; done) | (go_simp; rfl)); intro gb172 hg w23 hbox hb; have n0_ := Aside0.mk (below_step (by repeat (first | (with_reducible first | exact HB.out | apply below_alloc | apply pw_below_drewN | apply below_drew1) | exact HB.out)) hb); have n1_ := Aside0.mk (hbox); have n2_ := Aside0.mk ((by rw [hg]; exact (below_size (by repeat (first | (with_reducible first | exact HB.out | apply below_alloc | apply pw_below_drewN | apply below_drew1) | exact HB.out))) : w.heap.size ≤ gb172)); have n3_ := Aside0.mk ((by rw [hg]; exact (below_size (by repeat (first | (with_reducible first | exact HB.out | apply below_alloc | apply pw_below_drewN | apply below_drew1) | exact HB.out))) : w.heap.size ≤ gb172)); clear HB; have HB := n0_; have BK172 := n1_; have GW172 := n2_; have GE172 := n3_; clear n0_ n1_ n2_ n3_; clear hb hbox hg; have hcz24_0 : w23.cell? ⟨gb172, 0, none⟩ = some (.string a2_0) := (blk_cell BK172.out 0).trans rfl; have hcz24_1 : w23.cell? ⟨gb172, 1, none⟩ = some (.int .i64 a2_1) := (blk_cell BK172.out 1).trans rfl; have hcz24_2 : w23.cell? ⟨gb172, 2, none⟩ = some (.int .i64 a2_2) := (blk_cell BK172.out 2).trans rfl; have hcz24_3 : w23.cell? ⟨gb172, 3, none⟩ = some (.int .i64 a2_3) := (blk_cell BK172.out 3).trans rfl; have hcz24_4 : w23.cell? ⟨gb172, 4, none⟩ = some (.int .i64 a2_4) := (blk_cell BK172.out 4).trans rfl; have hfz24_0 := blk_frozen BK172.out 0; have hfz24_1 := blk_frozen BK172.out 1; have hfz24_2 := blk_frozen BK172.out 2; have hfz24_3 := blk_frozen BK172.out 3; have hfz24_4 := blk_frozen BK172.out 4) | (go_at_call 17; (with_reducible refine (dynamics_Speeds.calls k _ _ l0 a1 a2_0 a2_1 a2_2 a2_3 a2_4 t173 t176 _ ?side1 ?side2 A4.out).mono ?_); (case side1 => repeat (first | exact (Kd.C_below HR0.out HB.out) | (with_reducible refine Kd.C_alloc ?_ _) | (with_reducible refine Kd.C_drewN ?_ _) | (with_reducible refine Kd.C_drew ?_))); (case side2 => exact HC0.out); rintro e w25 ⟨v174, rfl, ho0, hb⟩; have n0_ := Aside0.mk (Kd.R_lower ho0 (below_size (by repeat (first | (with_reducible first | exact HB.out | apply below_alloc | apply pw_below_drewN | apply below_drew1 | refine below_set ?_ GE172.out) | exact HB.out)))); have n1_ := Aside0.mk (blk_below (g := gb172) (o := .cells #[.string a2_0, .int .i64 a2_1, .int .i64 a2_2, .int .i64 a2_3, .int .i64 a2_4] 26 (0, 0)) (by (with_reducible repeat (first | refine blk_drewN ?_ _ | refine blk_drew ?_ | refine blk_alloc ?_ _)); exact BK172.out) hb); have n2_ := Aside0.mk (below_step (by repeat (first | (with_reducible first | exact HB.out | apply below_alloc | apply pw_below_drewN | apply below_drew1 | refine below_set ?_ GE172.out) | exact HB.out)) hb); clear BK172; clear HB; have HO175 := n0_; have BK172 := n1_; have HB := n2_; clear n0_ n1_ n2_; (try clear hb); (try clear hb2); (try clear hk); (try clear hi); (try clear ho0))); try go_wp2_with (first | ((with_reducible refine gate_dst (N := 5) rfl ?_); refine box_event ?hg (N := 5) ?hd (cs := #[.string a2_0, .int .i64 a2_1, .int .i64 a2_2, .int .i64 a2_3, .int .i64 a2_4]) (t := 26) ?hr ?_; (case hd => rfl); (case hg => rfl); (case hr => first | (go_simp; done) | (go_simp; rfl)); intro gb172 hg w23 hbox hb; have n0_ := Aside0.mk (below_step (by repeat (first | (with_reducible first | exact HB.out | apply below_alloc | apply pw_below_drewN | apply below_drew1) | exact HB.out)) hb); have n1_ := Aside0.mk (hbox); have n2_ := Aside0.mk ((by rw [hg]; exact (below_size (by repeat (first | (with_reducible first | exact HB.out | apply below_alloc | apply pw_below_drewN | apply below_drew1) | exact HB.out))) : w.heap.size ≤ gb172)); have n3_ := Aside0.mk ((by rw [hg]; exact (below_size (by repeat (first | (with_reducible first | exact HB.out | apply below_alloc | apply pw_below_drewN | apply below_drew1) | exact HB.out))) : w.heap.size ≤ gb172)); clear HB; have HB := n0_; have BK172 := n1_; have GW172 := n2_; have GE172 := n3_; clear n0_ n1_ n2_ n3_; clear hb hbox hg; have hcz24_0 : w23.cell? ⟨gb172, 0, none⟩ = some (.string a2_0) := (blk_cell BK172.out 0).trans rfl; have hcz24_1 : w23.cell? ⟨gb172, 1, none⟩ = some (.int .i64 a2_1) := (blk_cell BK172.out 1).trans rfl; have hcz24_2 : w23.cell? ⟨gb172, 2, none⟩ = some (.int .i64 a2_2) := (blk_cell BK172.out 2).trans rfl; have hcz24_3 : w23.cell? ⟨gb172, 3, none⟩ = some (.int .i64 a2_3) := (blk_cell BK172.out 3).trans rfl; have hcz24_4 : w23.cell? ⟨gb172, 4, none⟩ = some (.int .i64 a2_4) := (blk_cell BK172.out 4).trans rfl; have hfz24_0 := blk_frozen BK172.out 0; have hfz24_1 := blk_frozen BK172.out 1; have hfz24_2 := blk_frozen BK172.out 2; have hfz24_3 := blk_frozen BK172.out 3; have hfz24_4 := blk_frozen BK172.out 4) | (go_at_call 17; (with_reducible refine (dynamics_Speeds.calls k _ _ l0 a1 a2_0 a2_1 a2_2 a2_3 a2_4 t173 t176 _ ?side1 ?side2 A4.out).mono ?_); (case side1 => repeat (first | exact (Kd.C_below HR0.out HB.out) | (with_reducible refine Kd.C_alloc ?_ _) | (with_reducible refine Kd.C_drewN ?_ _) | (with_reducible refine Kd.C_drew ?_))); (case side2 => exact HC0.out); rintro e w25 ⟨v174, rfl, ho0, hb⟩; have n0_ := Aside0.mk (Kd.R_lower ho0 (below_size (by repeat (first | (with_reducible first | exact HB.out | apply below_alloc | apply pw_below_drewN | apply below_drew1 | refine below_set ?_ GE172.out) | exact HB.out)))); have n1_ := Aside0.mk (blk_below (g := gb172) (o := .cells #[.string a2_0, .int .i64 a2_1, .int .i64 a2_2, .int .i64 a2_3, .int .i64 a2_4] 26 (0, 0)) (by (with_reducible repeat (first | refine blk_drewN ?_ _ | refine blk_drew ?_ | refine blk_alloc ?_ _)); exact BK172.out) hb); have n2_ := Aside0.mk (below_step (by repeat (first | (with_reducible first | exact HB.out | apply below_alloc | apply pw_below_drewN | apply below_drew1 | refine below_set ?_ GE172.out) | exact HB.out)) hb); clear BK172; clear HB; have HO175 := n0_; have BK172 := n1_; have HB := n2_; clear n0_ n1_ n2_; (try clear hb); (try clear hb2); (try clear hk); (try clear hi); (try clear ho0))))
    go_ret2
    exact ⟨_, by first | rfl | (simp [errW_none, errW_some] <;> rfl) | (simp [*, errW_none, errW_some] <;> rfl), by first | exact Kd.R_nil _ _ _ _ _ | exact Kd.N_nil _ _ _ _ _ | exact Kd.V_nil _ _ _ _ _ | exact Kd.Q_nil _ _ _ _ _ | exact Kd.S_nil _ _ _ _ _, by repeat (first | (with_reducible first | exact HB.out | apply below_alloc | apply pw_below_drewN | apply below_drew1 | refine below_set ?_ GE172.out) | exact HB.out)⟩

/-! ### dynamics_Run: function 20 -/
def dynamics_Run.f (k : Nat) (l0 : List (S34)) (a1 : Int) (a2_0 : ByteArray) (a2_1 : Int) (a2_2 : Int) (a2_3 : Int) (a2_4 : Int) : Option (Int × Int) := (dynamics_Times.f k l0 a1 a2_0 a2_1 a2_2 a2_3 a2_4).bind fun bt189 => (if bt189.2 = 0 then (if 0 ≤ (wrap64 ((bt189.1.length : Int) - 1)) then (if (wrap64 ((bt189.1.length : Int) - 1)) < (bt189.1.length : Int) then ((arith_CeilDiv.f (rd bt189.1 (wrap64 ((bt189.1.length : Int) - 1))) 1000).bind fun bt194 => (some (bt194.1, 0))) else (none)) else (none)) else (some (0, bt189.2)))
theorem dynamics_Run.mono : ∀ a0 a1 a2 a3 a4 a5 a6 k, LeO (dynamics_Run.f k a0 a1 a2 a3 a4 a5 a6) (dynamics_Run.f (k + 1) a0 a1 a2 a3 a4 a5 a6) := by
  intro a0 a1 a2 a3 a4 a5 a6 k
  unfold dynamics_Run.f
  repeat' first
      | (with_reducible exact dynamics_Times.mono _ _ _ _ _ _ _ _)
      | (with_reducible exact LeO.refl _)
      | (with_reducible exact LeO.none _)
      | (with_reducible refine LeO.ite ?_ ?_)
      | (with_reducible refine LeO.bind ?_ (fun _ => ?_))
      | exact dynamics_Times.mono _ _ _ _ _ _ _ _
      | exact LeO.none _
      | refine LeO.ite ?_ ?_
      | refine LeO.bind ?_ (fun _ => ?_)
set_option maxHeartbeats 8000000 in
set_option maxRecDepth 100000 in
theorem dynamics_Run.calls (k : Nat) (A0 : Option Addr) (c0 : Nat) (l0 : List (S34)) (a1 : Int) (a2_0 : ByteArray) (a2_1 : Int) (a2_2 : Int) (a2_3 : Int) (a2_4 : Int) (r1 : Int) (r2 : Int) (w : World) (hr0 : Kd.C k34 w A0 l0.length l0) (hc0 : l0.length ≤ c0) (h : dynamics_Run.f k l0 a1 a2_0 a2_1 a2_2 a2_3 a2_4 = some (r1, r2)) :
    Calls Try.prog 20 #[.slice A0 l0.length c0, .int .i64 a1, .agg #[.string a2_0, .int .i64 a2_1, .int .i64 a2_2, .int .i64 a2_3, .int .i64 a2_4]] w fun e w' => e = .returned (.tuple #[.int .i64 r1, .int .i64 r2]) ∧ Below w.heap.size w w' := by
  have hu26 := Try.underlying26
  have HR0 := Aside0.mk hr0
  have HC0 := Aside0.mk hc0
  clear hr0 hc0
  have HB := Aside0.mk (Below.refl w.heap.size w)
  have H : ((dynamics_Times.f k l0 a1 a2_0 a2_1 a2_2 a2_3 a2_4).bind fun bt189 => (if bt189.2 = 0 then (if 0 ≤ (wrap64 ((bt189.1.length : Int) - 1)) then (if (wrap64 ((bt189.1.length : Int) - 1)) < (bt189.1.length : Int) then ((arith_CeilDiv.f (rd bt189.1 (wrap64 ((bt189.1.length : Int) - 1))) 1000).bind fun bt194 => (some (bt194.1, 0))) else (none)) else (none)) else (some (0, bt189.2)))) = some (r1, r2) := h
  clear h
  replace H := Option.bind_eq_some_iff.mp H
  obtain ⟨⟨t189, t192⟩, A40, H⟩ := H
  replace H : (if t192 = 0 then (if 0 ≤ (wrap64 ((t189.length : Int) - 1)) then (if (wrap64 ((t189.length : Int) - 1)) < (t189.length : Int) then ((arith_CeilDiv.f (rd t189 (wrap64 ((t189.length : Int) - 1))) 1000).bind fun bt194 => (some (bt194.1, 0))) else (none)) else (none)) else (some (0, t192))) = some (r1, r2) := H
  have A4 := Aside0.mk A40
  clear A40
  by_cases c5 : t192 = 0
  · rw [if_pos c5] at H
    have c5b0 : (t192 == 0) = true := beq_iff_eq.mpr c5
    have c5b1 : (t192 != 0) = false := bne_eq_false_iff_eq.mpr c5
    clear c5
    obtain ⟨ji6, hji6⟩ : ∃ j_ : Int, (wrap64 ((t189.length : Int) - 1)) = j_ := ⟨_, rfl⟩
    replace H : (if 0 ≤ (ji6) then (if (ji6) < (t189.length : Int) then ((arith_CeilDiv.f (rd t189 (ji6)) 1000).bind fun bt194 => (some (bt194.1, 0))) else (none)) else (none)) = some (r1, r2) := by first | (rw [hji6] at H; exact H) | (simp only [hji6] at H ⊢; exact H)
    (try rw [hji6] at A4)
    have hji6w : (IntKind.i64.wrap ((t189.length : Int) - 1)) = ji6 := (i64_w _).trans hji6
    by_cases c7 : 0 ≤ (ji6)
    · rw [if_pos c7] at H
      have c7b0 : decide (0 ≤ (ji6)) = true := decide_eq_true c7
      clear c7
      by_cases c8 : (ji6) < (t189.length : Int)
      · rw [if_pos c8] at H
        have c8b0 : decide ((ji6) < (t189.length : Int)) = true := decide_eq_true c8
        clear c8
        replace H := Option.bind_eq_some_iff.mp H
        obtain ⟨⟨t194, t195⟩, A90, H⟩ := H
        replace H : (some (t194, 0)) = some (r1, r2) := H
        have A9 := Aside0.mk A90
        clear A90
        simp only [Option.some.injEq, Prod.mk.injEq] at H
        obtain ⟨rfl, rfl⟩ := H
        go_enter Try.func20, Try.ntmps20
        go_wp2_with (first | ((with_reducible refine gate_dst (N := 5) rfl ?_); refine box_event ?hg (N := 5) ?hd (cs := #[.string a2_0, .int .i64 a2_1, .int .i64 a2_2, .int .i64 a2_3, .int .i64 a2_4]) (t := 26) ?hr ?_; (case hd => rfl); (case hg => rfl); (case hr => first | (go_simp; done) | (go_simp; rfl)); intro gb188 hg w10 hbox hb; have n0_ := Aside0.mk (below_step (by repeat (first | (with_reducible first | exact HB.out | apply below_alloc | apply pw_below_drewN | apply below_drew1) | exact HB.out)) hb); have n1_ := Aside0.mk (hbox); have n2_ := Aside0.mk ((by rw [hg]; exact (below_size (by repeat (first | (with_reducible first | exact HB.out | apply below_alloc | apply pw_below_drewN | apply below_drew1) | exact HB.out))) : w.heap.size ≤ gb188)); have n3_ := Aside0.mk ((by rw [hg]; exact (below_size (by repeat (first | (with_reducible first | exact HB.out | apply below_alloc | apply pw_below_drewN | apply below_drew1) | exact HB.out))) : w.heap.size ≤ gb188)); clear HB; have HB := n0_; have BK188 := n1_; have GW188 := n2_; have GE188 := n3_; clear n0_ n1_ n2_ n3_; clear hb hbox hg; have hcz11_0 : w10.cell? ⟨gb188, 0, none⟩ = some (.string a2_0) := (blk_cell BK188.out 0).trans rfl; have hcz11_1 : w10.cell? ⟨gb188, 1, none⟩ = some (.int .i64 a2_1) := (blk_cell BK188.out 1).trans rfl; have hcz11_2 : w10.cell? ⟨gb188, 2, none⟩ = some (.int .i64 a2_2) := (blk_cell BK188.out 2).trans rfl; have hcz11_3 : w10.cell? ⟨gb188, 3, none⟩ = some (.int .i64 a2_3) := (blk_cell BK188.out 3).trans rfl; have hcz11_4 : w10.cell? ⟨gb188, 4, none⟩ = some (.int .i64 a2_4) := (blk_cell BK188.out 4).trans rfl; have hfz11_0 := blk_frozen BK188.out 0; have hfz11_1 := blk_frozen BK188.out 1; have hfz11_2 := blk_frozen BK188.out 2; have hfz11_3 := blk_frozen BK188.out 3; have hfz11_4 := blk_frozen BK188.out 4) | ((with_reducible refine gate_callee (f := 19) rfl ?_); refine goesL_ (some 16) rfl rfl Try.func19 (by kernel_rfl) rfl #[.slice A0 l0.length c0, .int .i64 a1, .agg #[.string a2_0, .int .i64 a2_1, .int .i64 a2_2, .int .i64 a2_3, .int .i64 a2_4]] rfl (by (try simp only [List.map_toArray, List.map_cons, List.map_nil]); first | done | rfl | (simp only [List.length_drop, List.length_take]; rfl)) ?_; (with_reducible refine (dynamics_Times.calls k _ _ l0 a1 a2_0 a2_1 a2_2 a2_3 a2_4 t189 t192 _ ?side1 ?side2 A4.out).mono ?_); (case side1 => repeat (first | exact (Kd.C_below HR0.out HB.out) | (with_reducible refine Kd.C_alloc ?_ _) | (with_reducible refine Kd.C_drewN ?_ _) | (with_reducible refine Kd.C_drew ?_))); (case side2 => exact HC0.out); rintro e w12 ⟨v190, rfl, ho0, hb⟩; refine ⟨_, rfl, ?_⟩; have n0_ := Aside0.mk (Kd.R_lower ho0 (below_size (by repeat (first | (with_reducible first | exact HB.out | apply below_alloc | apply pw_below_drewN | apply below_drew1 | refine below_set ?_ GE188.out) | exact HB.out)))); have n1_ := Aside0.mk (blk_below (g := gb188) (o := .cells #[.string a2_0, .int .i64 a2_1, .int .i64 a2_2, .int .i64 a2_3, .int .i64 a2_4] 26 (0, 0)) (by (with_reducible repeat (first | refine blk_drewN ?_ _ | refine blk_drew ?_ | refine blk_alloc ?_ _)); exact BK188.out) hb); have n2_ := Aside0.mk (below_step (by repeat (first | (with_reducible first | exact HB.out | apply below_alloc | apply pw_below_drewN | apply below_drew1 | refine below_set ?_ GE188.out) | exact HB.out)) hb); clear BK188; clear HB; have HO191 := n0_; have BK188 := n1_; have HB := n2_; clear n0_ n1_ n2_; (try clear hb); (try clear hb2); (try clear hk); (try clear hi); (try clear ho0); obtain ⟨Ao13, co13, eo13⟩ := Kd.R_slice HO191.out; subst eo13; have p193 : 0 ≤ ((ji6) : Int) := of_decide_eq_true (by first | (with_reducible assumption) | assumption); have q193 : (ji6) < (t189.length : Int) := of_decide_eq_true (by first | (with_reducible assumption) | assumption); obtain ⟨ad193, e193, hx193_0⟩ := Kd.at_int (Kd.R_reads' HO191.out).2.2 (ji6) p193 q193; cases e193; replace p193 := eq_true p193; replace q193 := eq_true q193) | ((with_reducible refine gate_callee (f := 31) rfl ?_); refine goesL_ (some 29) rfl rfl Try.func31 (by kernel_rfl) rfl #[.int .i64 (rd t189 (ji6)), .int .i64 1000] rfl (by (try simp only [List.map_toArray, List.map_cons, List.map_nil]); first | done | (simp only [hji6]; rfl) | rfl | (simp only [List.length_drop, List.length_take]; rfl)) ?_; (with_reducible refine (arith_CeilDiv.calls (rd t189 (ji6)) 1000 t194 t195 _ A9.out).mono ?_); rintro e w' ⟨rfl, ⟨nd, rfl⟩⟩; refine ⟨_, rfl, ?_⟩))
        go_ret2
        exact ⟨by first | rfl | (simp [errW_none, errW_some] <;> rfl) | (simp only [← hji6]; first | rfl | (simp [errW_none, errW_some] <;> rfl)) | (simp [*, errW_none, errW_some] <;> rfl), by repeat (first | (with_reducible first | exact HB.out | apply below_alloc | apply pw_below_drewN | apply below_drew1 | refine below_set ?_ GE188.out) | exact HB.out)⟩
      · rw [if_neg c8] at H
        exact absurd H (by simp)
    · rw [if_neg c7] at H
      exact absurd H (by simp)
  · rw [if_neg c5] at H
    have c5b0 : (t192 == 0) = false := beq_eq_false_iff_ne.mpr c5
    have c5b1 : (t192 != 0) = true := bne_iff_ne.mpr c5
    simp only [Option.some.injEq, Prod.mk.injEq] at H
    obtain ⟨rfl, rfl⟩ := H
    go_enter Try.func20, Try.ntmps20
    go_wp2_with (first | ((with_reducible refine gate_dst (N := 5) rfl ?_); refine box_event ?hg (N := 5) ?hd (cs := #[.string a2_0, .int .i64 a2_1, .int .i64 a2_2, .int .i64 a2_3, .int .i64 a2_4]) (t := 26) ?hr ?_; (case hd => rfl); (case hg => rfl); (case hr => first | (go_simp; done) | (go_simp; rfl)); intro gb188 hg w14 hbox hb; have n0_ := Aside0.mk (below_step (by repeat (first | (with_reducible first | exact HB.out | apply below_alloc | apply pw_below_drewN | apply below_drew1) | exact HB.out)) hb); have n1_ := Aside0.mk (hbox); have n2_ := Aside0.mk ((by rw [hg]; exact (below_size (by repeat (first | (with_reducible first | exact HB.out | apply below_alloc | apply pw_below_drewN | apply below_drew1) | exact HB.out))) : w.heap.size ≤ gb188)); have n3_ := Aside0.mk ((by rw [hg]; exact (below_size (by repeat (first | (with_reducible first | exact HB.out | apply below_alloc | apply pw_below_drewN | apply below_drew1) | exact HB.out))) : w.heap.size ≤ gb188)); clear HB; have HB := n0_; have BK188 := n1_; have GW188 := n2_; have GE188 := n3_; clear n0_ n1_ n2_ n3_; clear hb hbox hg; have hcz15_0 : w14.cell? ⟨gb188, 0, none⟩ = some (.string a2_0) := (blk_cell BK188.out 0).trans rfl; have hcz15_1 : w14.cell? ⟨gb188, 1, none⟩ = some (.int .i64 a2_1) := (blk_cell BK188.out 1).trans rfl; have hcz15_2 : w14.cell? ⟨gb188, 2, none⟩ = some (.int .i64 a2_2) := (blk_cell BK188.out 2).trans rfl; have hcz15_3 : w14.cell? ⟨gb188, 3, none⟩ = some (.int .i64 a2_3) := (blk_cell BK188.out 3).trans rfl; have hcz15_4 : w14.cell? ⟨gb188, 4, none⟩ = some (.int .i64 a2_4) := (blk_cell BK188.out 4).trans rfl; have hfz15_0 := blk_frozen BK188.out 0; have hfz15_1 := blk_frozen BK188.out 1; have hfz15_2 := blk_frozen BK188.out 2; have hfz15_3 := blk_frozen BK188.out 3; have hfz15_4 := blk_frozen BK188.out 4) | ((with_reducible refine gate_callee (f := 19) rfl ?_); refine goesL_ (some 16) rfl rfl Try.func19 (by kernel_rfl) rfl #[.slice A0 l0.length c0, .int .i64 a1, .agg #[.string a2_0, .int .i64 a2_1, .int .i64 a2_2, .int .i64 a2_3, .int .i64 a2_4]] rfl (by (try simp only [List.map_toArray, List.map_cons, List.map_nil]); first | done | rfl | (simp only [List.length_drop, List.length_take]; rfl)) ?_; (with_reducible refine (dynamics_Times.calls k _ _ l0 a1 a2_0 a2_1 a2_2 a2_3 a2_4 t189 t192 _ ?side1 ?side2 A4.out).mono ?_); (case side1 => repeat (first | exact (Kd.C_below HR0.out HB.out) | (with_reducible refine Kd.C_alloc ?_ _) | (with_reducible refine Kd.C_drewN ?_ _) | (with_reducible refine Kd.C_drew ?_))); (case side2 => exact HC0.out); rintro e w16 ⟨v190, rfl, ho0, hb⟩; refine ⟨_, rfl, ?_⟩; have n0_ := Aside0.mk (Kd.R_lower ho0 (below_size (by repeat (first | (with_reducible first | exact HB.out | apply below_alloc | apply pw_below_drewN | apply below_drew1 | refine below_set ?_ GE188.out) | exact HB.out)))); have n1_ := Aside0.mk (blk_below (g := gb188) (o := .cells #[.string a2_0, .int .i64 a2_1, .int .i64 a2_2, .int .i64 a2_3, .int .i64 a2_4] 26 (0, 0)) (by (with_reducible repeat (first | refine blk_drewN ?_ _ | refine blk_drew ?_ | refine blk_alloc ?_ _)); exact BK188.out) hb); have n2_ := Aside0.mk (below_step (by repeat (first | (with_reducible first | exact HB.out | apply below_alloc | apply pw_below_drewN | apply below_drew1 | refine below_set ?_ GE188.out) | exact HB.out)) hb); clear BK188; clear HB; have HO191 := n0_; have BK188 := n1_; have HB := n2_; clear n0_ n1_ n2_; (try clear hb); (try clear hb2); (try clear hk); (try clear hi); (try clear ho0)))
    go_ret2
    exact ⟨by first | rfl | (simp [errW_none, errW_some] <;> rfl) | (simp [*, errW_none, errW_some] <;> rfl), by repeat (first | (with_reducible first | exact HB.out | apply below_alloc | apply pw_below_drewN | apply below_drew1 | refine below_set ?_ GE188.out) | exact HB.out)⟩

/-! ### railplanlaw6_DynamicsTimesAscend: function 12 -/
mutual
def railplanlaw6_DynamicsTimesAscend.j0 : Nat → List Int → Int → Bool → Option (Bool)
  | 0, _, _, _ => none
  | k + 1, x9, x11, x63 => if x63 = true then (some false) else (railplanlaw6_DynamicsTimesAscend.l0 k x9 x11 1)
def railplanlaw6_DynamicsTimesAscend.l0 : Nat → List Int → Int → Int → Option (Bool)
  | 0, _, _, _ => none
  | k + 1, x9, x11, x13 => if x13 < (x9.length : Int) then (if 0 ≤ x13 then (if 0 ≤ (wrap64 (x13 - 1)) then (if (wrap64 (x13 - 1)) < (x9.length : Int) then (if (rd x9 x13) ≤ (rd x9 (wrap64 (x13 - 1))) then (some false) else (railplanlaw6_DynamicsTimesAscend.l0 k x9 x11 (wrap64 (x13 + 1)))) else (none)) else (none)) else (none)) else (if 0 ≤ (wrap64 ((x9.length : Int) - 1)) then (if (wrap64 ((x9.length : Int) - 1)) < (x9.length : Int) then (if (wrap64 (1000 * x11)) ≥ (rd x9 (wrap64 ((x9.length : Int) - 1))) then (some (decide ((wrap64 (1000 * (wrap64 (x11 - 1)))) < (rd x9 (wrap64 ((x9.length : Int) - 1)))))) else (some false)) else (none)) else (none))
end
def railplanlaw6_DynamicsTimesAscend.f (k : Nat) (l0 : List Int) (l1 : List Int) (a2 : Int) : Option (Bool) := (railplankeep_Cells.f k l0).bind fun t196 => ((railplankeep_Stock.f l1).bind fun bt199 => (if (t196.length : Int) < 2 then ((dynamics_Check.f bt199.1 bt199.2.1 bt199.2.2.1 bt199.2.2.2.1 bt199.2.2.2.2).bind fun t205 => (some t205)) else ((railplankeep_Pick.f a2 (wrap64 ((t196.length : Int) - 1))).bind fun t206 => ((dynamics_Times.f k t196 t206 bt199.1 bt199.2.1 bt199.2.2.1 bt199.2.2.2.1 bt199.2.2.2.2).bind fun bt207 => ((dynamics_Run.f k t196 t206 bt199.1 bt199.2.1 bt199.2.2.1 bt199.2.2.2.1 bt199.2.2.2.2).bind fun bt211 => (if bt207.2 = 0 then (if bt211.2 = 0 then (if (bt207.1.length : Int) = (wrap64 ((wrap64 ((t196.length : Int) - t206)) + 1)) then (if 0 < (bt207.1.length : Int) then (railplanlaw6_DynamicsTimesAscend.j0 k bt207.1 bt211.1 ((rd bt207.1 0) != 0)) else (none)) else (railplanlaw6_DynamicsTimesAscend.j0 k bt207.1 bt211.1 true)) else (railplanlaw6_DynamicsTimesAscend.j0 k bt207.1 bt211.1 true)) else (railplanlaw6_DynamicsTimesAscend.j0 k bt207.1 bt211.1 true)))))))
theorem railplanlaw6_DynamicsTimesAscend.mono_l : ∀ k, (∀ y0 y1 y2, LeO (railplanlaw6_DynamicsTimesAscend.j0 k y0 y1 y2) (railplanlaw6_DynamicsTimesAscend.j0 (k + 1) y0 y1 y2)) ∧ (∀ y0 y1 y2, LeO (railplanlaw6_DynamicsTimesAscend.l0 k y0 y1 y2) (railplanlaw6_DynamicsTimesAscend.l0 (k + 1) y0 y1 y2))
  | 0 => ⟨fun _ _ _ r h => by simp [railplanlaw6_DynamicsTimesAscend.j0] at h, fun _ _ _ r h => by simp [railplanlaw6_DynamicsTimesAscend.l0] at h⟩
  | k + 1 => by
    obtain ⟨ih0, ih1⟩ := railplanlaw6_DynamicsTimesAscend.mono_l k
    refine ⟨?_, ?_⟩
    · intro y0 y1 y2
      unfold railplanlaw6_DynamicsTimesAscend.j0
      repeat' first
      | (with_reducible exact ih0 _ _ _)
      | (with_reducible exact ih1 _ _ _)
      | (with_reducible exact dynamics_Run.mono _ _ _ _ _ _ _ _)
      | (with_reducible exact dynamics_Times.mono _ _ _ _ _ _ _ _)
      | (with_reducible exact railplankeep_Cells.mono _ _)
      | (with_reducible exact LeO.refl _)
      | (with_reducible exact LeO.none _)
      | (with_reducible refine LeO.ite ?_ ?_)
      | (with_reducible refine LeO.bind ?_ (fun _ => ?_))
      | exact ih0 _ _ _
      | exact ih1 _ _ _
      | exact dynamics_Run.mono _ _ _ _ _ _ _ _
      | exact dynamics_Times.mono _ _ _ _ _ _ _ _
      | exact railplankeep_Cells.mono _ _
      | exact LeO.none _
      | refine LeO.ite ?_ ?_
      | refine LeO.bind ?_ (fun _ => ?_)
    · intro y0 y1 y2
      unfold railplanlaw6_DynamicsTimesAscend.l0
      repeat' first
      | (with_reducible exact ih0 _ _ _)
      | (with_reducible exact ih1 _ _ _)
      | (with_reducible exact dynamics_Run.mono _ _ _ _ _ _ _ _)
      | (with_reducible exact dynamics_Times.mono _ _ _ _ _ _ _ _)
      | (with_reducible exact railplankeep_Cells.mono _ _)
      | (with_reducible exact LeO.refl _)
      | (with_reducible exact LeO.none _)
      | (with_reducible refine LeO.ite ?_ ?_)
      | (with_reducible refine LeO.bind ?_ (fun _ => ?_))
      | exact ih0 _ _ _
      | exact ih1 _ _ _
      | exact dynamics_Run.mono _ _ _ _ _ _ _ _
      | exact dynamics_Times.mono _ _ _ _ _ _ _ _
      | exact railplankeep_Cells.mono _ _
      | exact LeO.none _
      | refine LeO.ite ?_ ?_
      | refine LeO.bind ?_ (fun _ => ?_)
theorem railplanlaw6_DynamicsTimesAscend.mono : ∀ a0 a1 a2 k, LeO (railplanlaw6_DynamicsTimesAscend.f k a0 a1 a2) (railplanlaw6_DynamicsTimesAscend.f (k + 1) a0 a1 a2) := by
  intro a0 a1 a2 k
  obtain ⟨ih0, ih1⟩ := railplanlaw6_DynamicsTimesAscend.mono_l k
  unfold railplanlaw6_DynamicsTimesAscend.f
  repeat' first
      | (with_reducible exact ih0 _ _ _)
      | (with_reducible exact ih1 _ _ _)
      | (with_reducible exact dynamics_Run.mono _ _ _ _ _ _ _ _)
      | (with_reducible exact dynamics_Times.mono _ _ _ _ _ _ _ _)
      | (with_reducible exact railplankeep_Cells.mono _ _)
      | (with_reducible exact LeO.refl _)
      | (with_reducible exact LeO.none _)
      | (with_reducible refine LeO.ite ?_ ?_)
      | (with_reducible refine LeO.bind ?_ (fun _ => ?_))
      | exact ih0 _ _ _
      | exact ih1 _ _ _
      | exact dynamics_Run.mono _ _ _ _ _ _ _ _
      | exact dynamics_Times.mono _ _ _ _ _ _ _ _
      | exact railplankeep_Cells.mono _ _
      | exact LeO.none _
      | refine LeO.ite ?_ ?_
      | refine LeO.bind ?_ (fun _ => ?_)
set_option maxHeartbeats 8000000 in
set_option maxRecDepth 100000 in
theorem railplanlaw6_DynamicsTimesAscend.calls (k : Nat) (A0 : Option Addr) (c0 : Nat) (l0 : List Int) (A1 : Option Addr) (c1 : Nat) (l1 : List Int) (a2 : Int) (r : Bool) (w : World) (hr0 : Kd.C (Kd.int .i64) w A0 l0.length l0) (hc0 : l0.length ≤ c0) (hr1 : Kd.C (Kd.int .i64) w A1 l1.length l1) (hc1 : l1.length ≤ c1) (h : railplanlaw6_DynamicsTimesAscend.f k l0 l1 a2 = some r) :
    Calls Try.prog 12 #[.slice A0 l0.length c0, .slice A1 l1.length c1, .int .i64 a2] w fun e w' => e = .returned (.bool r) ∧ Below w.heap.size w w' := by
  have hu26 := Try.underlying26
  have HR0 := Aside0.mk hr0
  have HC0 := Aside0.mk hc0
  clear hr0 hc0
  have HR1 := Aside0.mk hr1
  have HC1 := Aside0.mk hc1
  clear hr1 hc1
  have HB := Aside0.mk (Below.refl w.heap.size w)
  have H : ((railplankeep_Cells.f k l0).bind fun t196 => ((railplankeep_Stock.f l1).bind fun bt199 => (if (t196.length : Int) < 2 then ((dynamics_Check.f bt199.1 bt199.2.1 bt199.2.2.1 bt199.2.2.2.1 bt199.2.2.2.2).bind fun t205 => (some t205)) else ((railplankeep_Pick.f a2 (wrap64 ((t196.length : Int) - 1))).bind fun t206 => ((dynamics_Times.f k t196 t206 bt199.1 bt199.2.1 bt199.2.2.1 bt199.2.2.2.1 bt199.2.2.2.2).bind fun bt207 => ((dynamics_Run.f k t196 t206 bt199.1 bt199.2.1 bt199.2.2.1 bt199.2.2.2.1 bt199.2.2.2.2).bind fun bt211 => (if bt207.2 = 0 then (if bt211.2 = 0 then (if (bt207.1.length : Int) = (wrap64 ((wrap64 ((t196.length : Int) - t206)) + 1)) then (if 0 < (bt207.1.length : Int) then (railplanlaw6_DynamicsTimesAscend.j0 k bt207.1 bt211.1 ((rd bt207.1 0) != 0)) else (none)) else (railplanlaw6_DynamicsTimesAscend.j0 k bt207.1 bt211.1 true)) else (railplanlaw6_DynamicsTimesAscend.j0 k bt207.1 bt211.1 true)) else (railplanlaw6_DynamicsTimesAscend.j0 k bt207.1 bt211.1 true)))))))) = some r := h
  clear h
  replace H := Option.bind_eq_some_iff.mp H
  obtain ⟨t196, A40, H⟩ := H
  replace H : ((railplankeep_Stock.f l1).bind fun bt199 => (if (t196.length : Int) < 2 then ((dynamics_Check.f bt199.1 bt199.2.1 bt199.2.2.1 bt199.2.2.2.1 bt199.2.2.2.2).bind fun t205 => (some t205)) else ((railplankeep_Pick.f a2 (wrap64 ((t196.length : Int) - 1))).bind fun t206 => ((dynamics_Times.f k t196 t206 bt199.1 bt199.2.1 bt199.2.2.1 bt199.2.2.2.1 bt199.2.2.2.2).bind fun bt207 => ((dynamics_Run.f k t196 t206 bt199.1 bt199.2.1 bt199.2.2.1 bt199.2.2.2.1 bt199.2.2.2.2).bind fun bt211 => (if bt207.2 = 0 then (if bt211.2 = 0 then (if (bt207.1.length : Int) = (wrap64 ((wrap64 ((t196.length : Int) - t206)) + 1)) then (if 0 < (bt207.1.length : Int) then (railplanlaw6_DynamicsTimesAscend.j0 k bt207.1 bt211.1 ((rd bt207.1 0) != 0)) else (none)) else (railplanlaw6_DynamicsTimesAscend.j0 k bt207.1 bt211.1 true)) else (railplanlaw6_DynamicsTimesAscend.j0 k bt207.1 bt211.1 true)) else (railplanlaw6_DynamicsTimesAscend.j0 k bt207.1 bt211.1 true))))))) = some r := H
  have A4 := Aside0.mk A40
  clear A40
  replace H := Option.bind_eq_some_iff.mp H
  obtain ⟨⟨t199, t200, t201, t202, t203⟩, A50, H⟩ := H
  replace H : (if (t196.length : Int) < 2 then ((dynamics_Check.f t199 t200 t201 t202 t203).bind fun t205 => (some t205)) else ((railplankeep_Pick.f a2 (wrap64 ((t196.length : Int) - 1))).bind fun t206 => ((dynamics_Times.f k t196 t206 t199 t200 t201 t202 t203).bind fun bt207 => ((dynamics_Run.f k t196 t206 t199 t200 t201 t202 t203).bind fun bt211 => (if bt207.2 = 0 then (if bt211.2 = 0 then (if (bt207.1.length : Int) = (wrap64 ((wrap64 ((t196.length : Int) - t206)) + 1)) then (if 0 < (bt207.1.length : Int) then (railplanlaw6_DynamicsTimesAscend.j0 k bt207.1 bt211.1 ((rd bt207.1 0) != 0)) else (none)) else (railplanlaw6_DynamicsTimesAscend.j0 k bt207.1 bt211.1 true)) else (railplanlaw6_DynamicsTimesAscend.j0 k bt207.1 bt211.1 true)) else (railplanlaw6_DynamicsTimesAscend.j0 k bt207.1 bt211.1 true)))))) = some r := H
  have A5 := Aside0.mk A50
  clear A50
  by_cases c6 : (t196.length : Int) < 2
  · rw [if_pos c6] at H
    have c6b0 : decide ((t196.length : Int) < 2) = true := decide_eq_true c6
    have c6b1 : decide (t196.length < 2) = true := decide_eq_true (by omega)
    clear c6
    replace H := Option.bind_eq_some_iff.mp H
    obtain ⟨t205, A70, H⟩ := H
    replace H : (some t205) = some r := H
    have A7 := Aside0.mk A70
    clear A70
    obtain rfl := Option.some.inj H
    go_enter Try.func12, Try.ntmps12
    go_wp2_with (first | (go_at_call 13; (with_reducible refine (railplankeep_Cells.calls k _ _ l0 t196 _ ?side1 ?side2 A4.out).mono ?_); (case side1 => repeat (first | exact HR0.out | (with_reducible refine Kd.C_alloc ?_ _) | (with_reducible refine Kd.C_drewN ?_ _) | (with_reducible refine Kd.C_drew ?_))); (case side2 => exact HC0.out); rintro e w8 ⟨v197, rfl, ho0, hb⟩; have n0_ := Aside0.mk (Kd.R_lower ho0 (below_size (by repeat (first | (with_reducible first | exact HB.out | apply below_alloc | apply pw_below_drewN | apply below_drew1) | exact HB.out)))); have n1_ := Aside0.mk (below_step (by repeat (first | (with_reducible first | exact HB.out | apply below_alloc | apply pw_below_drewN | apply below_drew1) | exact HB.out)) hb); clear HB; have HO198 := n0_; have HB := n1_; clear n0_ n1_; (try clear hb); (try clear hb2); (try clear hk); (try clear hi); (try clear ho0)) | (go_at_call 14; (with_reducible refine (railplankeep_Stock.calls _ _ l1 t199 t200 t201 t202 t203 _ ?side1 ?side2 A5.out).mono ?_); (case side1 => repeat (first | exact (Kd.C_below HR1.out HB.out) | (with_reducible refine Kd.C_alloc ?_ _) | (with_reducible refine Kd.C_drewN ?_ _) | (with_reducible refine Kd.C_drew ?_))); (case side2 => exact HC1.out); rintro e w9 ⟨rfl, hb⟩; have n0_ := Aside0.mk (Kd.R_below (by (with_reducible repeat (first | apply Kd.R_alloc | apply Kd.R_drewN | apply Kd.R_drew)); exact HO198.out) hb); have n1_ := Aside0.mk (below_step (by repeat (first | (with_reducible first | exact HB.out | apply below_alloc | apply pw_below_drewN | apply below_drew1) | exact HB.out)) hb); clear HO198; clear HB; have HO198 := n0_; have HB := n1_; clear n0_ n1_; (try clear hb); (try clear hb2); (try clear hk); (try clear hi)) | ((with_reducible refine gate_dst (N := 8) rfl ?_); (try (refine gate_guard (by rfl) ?_; dsimp only)); refine box_event ?hg (N := 8) ?hd (cs := #[.string (⟨#[]⟩ : ByteArray), .int .i64 0, .int .i64 0, .int .i64 0, .int .i64 0]) (t := 26) ?hr ?_; (case hd => rfl); (case hg => rfl); (case hr => first | (go_simp; done) | (go_simp; rfl)); intro gb204 hg w10 hbox hb; have n0_ := Aside0.mk (Kd.R_below (by (with_reducible repeat (first | apply Kd.R_alloc | apply Kd.R_drewN | apply Kd.R_drew)); exact HO198.out) hb); have n1_ := Aside0.mk (below_step (by repeat (first | (with_reducible first | exact HB.out | apply below_alloc | apply pw_below_drewN | apply below_drew1) | exact HB.out)) hb); have n2_ := Aside0.mk (hbox); have n3_ := Aside0.mk ((by rw [hg]; exact (below_size (by repeat (first | (with_reducible first | exact HB.out | apply below_alloc | apply pw_below_drewN | apply below_drew1) | exact HB.out))) : w.heap.size ≤ gb204)); have n4_ := Aside0.mk ((by rw [hg]; exact (below_size (by repeat (first | (with_reducible first | exact HB.out | apply below_alloc | apply pw_below_drewN | apply below_drew1) | exact HB.out))) : w.heap.size ≤ gb204)); clear HO198; clear HB; have HO198 := n0_; have HB := n1_; have BK204 := n2_; have GW204 := n3_; have GE204 := n4_; clear n0_ n1_ n2_ n3_ n4_; clear hb hbox hg; have hcz11_0 : w10.cell? ⟨gb204, 0, none⟩ = some (.string (⟨#[]⟩ : ByteArray)) := (blk_cell BK204.out 0).trans rfl; have hcz11_1 : w10.cell? ⟨gb204, 1, none⟩ = some (.int .i64 0) := (blk_cell BK204.out 1).trans rfl; have hcz11_2 : w10.cell? ⟨gb204, 2, none⟩ = some (.int .i64 0) := (blk_cell BK204.out 2).trans rfl; have hcz11_3 : w10.cell? ⟨gb204, 3, none⟩ = some (.int .i64 0) := (blk_cell BK204.out 3).trans rfl; have hcz11_4 : w10.cell? ⟨gb204, 4, none⟩ = some (.int .i64 0) := (blk_cell BK204.out 4).trans rfl; have hfz11_0 := blk_frozen BK204.out 0; have hfz11_1 := blk_frozen BK204.out 1; have hfz11_2 := blk_frozen BK204.out 2; have hfz11_3 := blk_frozen BK204.out 3; have hfz11_4 := blk_frozen BK204.out 4; obtain ⟨Ao12, co12, eo12⟩ := Kd.R_slice HO198.out; subst eo12) | (go_at_call 15; (with_reducible refine (dynamics_Check.calls t199 t200 t201 t202 t203 t205 _ A7.out).mono ?_); rintro e w13 ⟨rfl, hb⟩; have n0_ := Aside0.mk (Kd.R_below (by (with_reducible repeat (first | apply Kd.R_alloc | apply Kd.R_drewN | apply Kd.R_drew)); exact (Kd.R_mono (Kd.R_far (p := ⟨gb204, 4, none⟩) (Kd.R_far (p := ⟨gb204, 3, none⟩) (Kd.R_far (p := ⟨gb204, 2, none⟩) (Kd.R_far (p := ⟨gb204, 1, none⟩) (Kd.R_far (p := ⟨gb204, 0, none⟩) (Kd.R_types HO198.out BK204.out (by decide)) (fun _ hk => hk.2) (.string t199)) (fun _ hk => hk.2) (.int .i64 t200)) (fun _ hk => hk.2) (.int .i64 t201)) (fun _ hk => hk.2) (.int .i64 t202)) (fun _ hk => hk.2) (.int .i64 t203)) (fun _ h_ => h_.1))) hb); have n1_ := Aside0.mk (blk_below (g := gb204) (o := .cells #[.string t199, .int .i64 t200, .int .i64 t201, .int .i64 t202, .int .i64 t203] 26 (0, 0)) (by (with_reducible repeat (first | refine blk_drewN ?_ _ | refine blk_drew ?_ | refine blk_alloc ?_ _)); refine blk_put (cs := #[.string t199, .int .i64 t200, .int .i64 t201, .int .i64 t202, .int .i64 0]) ?_ 4 _ rfl; (with_reducible repeat (first | refine blk_drewN ?_ _ | refine blk_drew ?_ | refine blk_alloc ?_ _)); refine blk_put (cs := #[.string t199, .int .i64 t200, .int .i64 t201, .int .i64 0, .int .i64 0]) ?_ 3 _ rfl; (with_reducible repeat (first | refine blk_drewN ?_ _ | refine blk_drew ?_ | refine blk_alloc ?_ _)); refine blk_put (cs := #[.string t199, .int .i64 t200, .int .i64 0, .int .i64 0, .int .i64 0]) ?_ 2 _ rfl; (with_reducible repeat (first | refine blk_drewN ?_ _ | refine blk_drew ?_ | refine blk_alloc ?_ _)); refine blk_put (cs := #[.string t199, .int .i64 0, .int .i64 0, .int .i64 0, .int .i64 0]) ?_ 1 _ rfl; (with_reducible repeat (first | refine blk_drewN ?_ _ | refine blk_drew ?_ | refine blk_alloc ?_ _)); refine blk_put (cs := #[.string (⟨#[]⟩ : ByteArray), .int .i64 0, .int .i64 0, .int .i64 0, .int .i64 0]) ?_ 0 _ rfl; (with_reducible repeat (first | refine blk_drewN ?_ _ | refine blk_drew ?_ | refine blk_alloc ?_ _)); exact BK204.out) hb); have n2_ := Aside0.mk (below_step (by repeat (first | (with_reducible first | exact HB.out | apply below_alloc | apply pw_below_drewN | apply below_drew1 | refine below_set ?_ GE204.out) | exact HB.out)) hb); clear HO198; clear BK204; clear HB; have HO198 := n0_; have BK204 := n1_; have HB := n2_; clear n0_ n1_ n2_; (try clear hb); (try clear hb2); (try clear hk); (try clear hi)))
    repeat (go_quiet (first | (go_at_call 13; (with_reducible refine (railplankeep_Cells.calls k _ _ l0 t196 _ ?side1 ?side2 A4.out).mono ?_); (case side1 => repeat (first | exact HR0.out | (with_reducible refine Kd.C_alloc ?_ _) | (with_reducible refine Kd.C_drewN ?_ _) | (with_reducible refine Kd.C_drew ?_))); (case side2 => exact HC0.out); rintro e w8 ⟨v197, rfl, ho0, hb⟩; have n0_ := Aside0.mk (Kd.R_lower ho0 (below_size (by repeat (first | (with_reducible first | exact HB.out | apply below_alloc | apply pw_below_drewN | apply below_drew1) | exact HB.out)))); have n1_ := Aside0.mk (below_step (by repeat (first | (with_reducible first | exact HB.out | apply below_alloc | apply pw_below_drewN | apply below_drew1) | exact HB.out)) hb); clear HB; have HO198 := n0_; have HB := n1_; clear n0_ n1_; (try clear hb); (try clear hb2); (try clear hk); (try clear hi); (try clear ho0)) | (go_at_call 14; (with_reducible refine (railplankeep_Stock.calls _ _ l1 t199 t200 t201 t202 t203 _ ?side1 ?side2 A5.out).mono ?_); (case side1 => repeat (first | exact (Kd.C_below HR1.out HB.out) | (with_reducible refine Kd.C_alloc ?_ _) | (with_reducible refine Kd.C_drewN ?_ _) | (with_reducible refine Kd.C_drew ?_))); (case side2 => exact HC1.out); rintro e w9 ⟨rfl, hb⟩; have n0_ := Aside0.mk (Kd.R_below (by (with_reducible repeat (first | apply Kd.R_alloc | apply Kd.R_drewN | apply Kd.R_drew)); exact HO198.out) hb); have n1_ := Aside0.mk (below_step (by repeat (first | (with_reducible first | exact HB.out | apply below_alloc | apply pw_below_drewN | apply below_drew1) | exact HB.out)) hb); clear HO198; clear HB; have HO198 := n0_; have HB := n1_; clear n0_ n1_; (try clear hb); (try clear hb2); (try clear hk); (try clear hi)) | ((with_reducible refine gate_dst (N := 8) rfl ?_); (try (refine gate_guard (by rfl) ?_; dsimp only)); refine box_event ?hg (N := 8) ?hd (cs := #[.string (⟨#[]⟩ : ByteArray), .int .i64 0, .int .i64 0, .int .i64 0, .int .i64 0]) (t := 26) ?hr ?_; (case hd => rfl); (case hg => rfl); (case hr => first | (go_simp; done) | (go_simp; rfl)); intro gb204 hg w10 hbox hb; have n0_ := Aside0.mk (Kd.R_below (by (with_reducible repeat (first | apply Kd.R_alloc | apply Kd.R_drewN | apply Kd.R_drew)); exact HO198.out) hb); have n1_ := Aside0.mk (below_step (by repeat (first | (with_reducible first | exact HB.out | apply below_alloc | apply pw_below_drewN | apply below_drew1) | exact HB.out)) hb); have n2_ := Aside0.mk (hbox); have n3_ := Aside0.mk ((by rw [hg]; exact (below_size (by repeat (first | (with_reducible first | exact HB.out | apply below_alloc | apply pw_below_drewN | apply below_drew1) | exact HB.out))) : w.heap.size ≤ gb204)); have n4_ := Aside0.mk ((by rw [hg]; exact (below_size (by repeat (first | (with_reducible first | exact HB.out | apply below_alloc | apply pw_below_drewN | apply below_drew1) | exact HB.out))) : w.heap.size ≤ gb204)); clear HO198; clear HB; have HO198 := n0_; have HB := n1_; have BK204 := n2_; have GW204 := n3_; have GE204 := n4_; clear n0_ n1_ n2_ n3_ n4_; clear hb hbox hg; have hcz11_0 : w10.cell? ⟨gb204, 0, none⟩ = some (.string (⟨#[]⟩ : ByteArray)) := (blk_cell BK204.out 0).trans rfl; have hcz11_1 : w10.cell? ⟨gb204, 1, none⟩ = some (.int .i64 0) := (blk_cell BK204.out 1).trans rfl; have hcz11_2 : w10.cell? ⟨gb204, 2, none⟩ = some (.int .i64 0) := (blk_cell BK204.out 2).trans rfl; have hcz11_3 : w10.cell? ⟨gb204, 3, none⟩ = some (.int .i64 0) := (blk_cell BK204.out 3).trans rfl; have hcz11_4 : w10.cell? ⟨gb204, 4, none⟩ = some (.int .i64 0) := (blk_cell BK204.out 4).trans rfl; have hfz11_0 := blk_frozen BK204.out 0; have hfz11_1 := blk_frozen BK204.out 1; have hfz11_2 := blk_frozen BK204.out 2; have hfz11_3 := blk_frozen BK204.out 3; have hfz11_4 := blk_frozen BK204.out 4; obtain ⟨Ao12, co12, eo12⟩ := Kd.R_slice HO198.out; subst eo12) | (go_at_call 15; (with_reducible refine (dynamics_Check.calls t199 t200 t201 t202 t203 t205 _ A7.out).mono ?_); rintro e w13 ⟨rfl, hb⟩; have n0_ := Aside0.mk (Kd.R_below (by (with_reducible repeat (first | apply Kd.R_alloc | apply Kd.R_drewN | apply Kd.R_drew)); exact (Kd.R_mono (Kd.R_far (p := ⟨gb204, 4, none⟩) (Kd.R_far (p := ⟨gb204, 3, none⟩) (Kd.R_far (p := ⟨gb204, 2, none⟩) (Kd.R_far (p := ⟨gb204, 1, none⟩) (Kd.R_far (p := ⟨gb204, 0, none⟩) (Kd.R_types HO198.out BK204.out (by decide)) (fun _ hk => hk.2) (.string t199)) (fun _ hk => hk.2) (.int .i64 t200)) (fun _ hk => hk.2) (.int .i64 t201)) (fun _ hk => hk.2) (.int .i64 t202)) (fun _ hk => hk.2) (.int .i64 t203)) (fun _ h_ => h_.1))) hb); have n1_ := Aside0.mk (blk_below (g := gb204) (o := .cells #[.string t199, .int .i64 t200, .int .i64 t201, .int .i64 t202, .int .i64 t203] 26 (0, 0)) (by (with_reducible repeat (first | refine blk_drewN ?_ _ | refine blk_drew ?_ | refine blk_alloc ?_ _)); refine blk_put (cs := #[.string t199, .int .i64 t200, .int .i64 t201, .int .i64 t202, .int .i64 0]) ?_ 4 _ rfl; (with_reducible repeat (first | refine blk_drewN ?_ _ | refine blk_drew ?_ | refine blk_alloc ?_ _)); refine blk_put (cs := #[.string t199, .int .i64 t200, .int .i64 t201, .int .i64 0, .int .i64 0]) ?_ 3 _ rfl; (with_reducible repeat (first | refine blk_drewN ?_ _ | refine blk_drew ?_ | refine blk_alloc ?_ _)); refine blk_put (cs := #[.string t199, .int .i64 t200, .int .i64 0, .int .i64 0, .int .i64 0]) ?_ 2 _ rfl; (with_reducible repeat (first | refine blk_drewN ?_ _ | refine blk_drew ?_ | refine blk_alloc ?_ _)); refine blk_put (cs := #[.string t199, .int .i64 0, .int .i64 0, .int .i64 0, .int .i64 0]) ?_ 1 _ rfl; (with_reducible repeat (first | refine blk_drewN ?_ _ | refine blk_drew ?_ | refine blk_alloc ?_ _)); refine blk_put (cs := #[.string (⟨#[]⟩ : ByteArray), .int .i64 0, .int .i64 0, .int .i64 0, .int .i64 0]) ?_ 0 _ rfl; (with_reducible repeat (first | refine blk_drewN ?_ _ | refine blk_drew ?_ | refine blk_alloc ?_ _)); exact BK204.out) hb); have n2_ := Aside0.mk (below_step (by repeat (first | (with_reducible first | exact HB.out | apply below_alloc | apply pw_below_drewN | apply below_drew1 | refine below_set ?_ GE204.out) | exact HB.out)) hb); clear HO198; clear BK204; clear HB; have HO198 := n0_; have BK204 := n1_; have HB := n2_; clear n0_ n1_ n2_; (try clear hb); (try clear hb2); (try clear hk); (try clear hi))); try go_wp2_with (first | (go_at_call 13; (with_reducible refine (railplankeep_Cells.calls k _ _ l0 t196 _ ?side1 ?side2 A4.out).mono ?_); (case side1 => repeat (first | exact HR0.out | (with_reducible refine Kd.C_alloc ?_ _) | (with_reducible refine Kd.C_drewN ?_ _) | (with_reducible refine Kd.C_drew ?_))); (case side2 => exact HC0.out); rintro e w8 ⟨v197, rfl, ho0, hb⟩; have n0_ := Aside0.mk (Kd.R_lower ho0 (below_size (by repeat (first | (with_reducible first | exact HB.out | apply below_alloc | apply pw_below_drewN | apply below_drew1) | exact HB.out)))); have n1_ := Aside0.mk (below_step (by repeat (first | (with_reducible first | exact HB.out | apply below_alloc | apply pw_below_drewN | apply below_drew1) | exact HB.out)) hb); clear HB; have HO198 := n0_; have HB := n1_; clear n0_ n1_; (try clear hb); (try clear hb2); (try clear hk); (try clear hi); (try clear ho0)) | (go_at_call 14; (with_reducible refine (railplankeep_Stock.calls _ _ l1 t199 t200 t201 t202 t203 _ ?side1 ?side2 A5.out).mono ?_); (case side1 => repeat (first | exact (Kd.C_below HR1.out HB.out) | (with_reducible refine Kd.C_alloc ?_ _) | (with_reducible refine Kd.C_drewN ?_ _) | (with_reducible refine Kd.C_drew ?_))); (case side2 => exact HC1.out); rintro e w9 ⟨rfl, hb⟩; have n0_ := Aside0.mk (Kd.R_below (by (with_reducible repeat (first | apply Kd.R_alloc | apply Kd.R_drewN | apply Kd.R_drew)); exact HO198.out) hb); have n1_ := Aside0.mk (below_step (by repeat (first | (with_reducible first | exact HB.out | apply below_alloc | apply pw_below_drewN | apply below_drew1) | exact HB.out)) hb); clear HO198; clear HB; have HO198 := n0_; have HB := n1_; clear n0_ n1_; (try clear hb); (try clear hb2); (try clear hk); (try clear hi)) | ((with_reducible refine gate_dst (N := 8) rfl ?_); (try (refine gate_guard (by rfl) ?_; dsimp only)); refine box_event ?hg (N := 8) ?hd (cs := #[.string (⟨#[]⟩ : ByteArray), .int .i64 0, .int .i64 0, .int .i64 0, .int .i64 0]) (t := 26) ?hr ?_; (case hd => rfl); (case hg => rfl); (case hr => first | (go_simp; done) | (go_simp; rfl)); intro gb204 hg w10 hbox hb; have n0_ := Aside0.mk (Kd.R_below (by (with_reducible repeat (first | apply Kd.R_alloc | apply Kd.R_drewN | apply Kd.R_drew)); exact HO198.out) hb); have n1_ := Aside0.mk (below_step (by repeat (first | (with_reducible first | exact HB.out | apply below_alloc | apply pw_below_drewN | apply below_drew1) | exact HB.out)) hb); have n2_ := Aside0.mk (hbox); have n3_ := Aside0.mk ((by rw [hg]; exact (below_size (by repeat (first | (with_reducible first | exact HB.out | apply below_alloc | apply pw_below_drewN | apply below_drew1) | exact HB.out))) : w.heap.size ≤ gb204)); have n4_ := Aside0.mk ((by rw [hg]; exact (below_size (by repeat (first | (with_reducible first | exact HB.out | apply below_alloc | apply pw_below_drewN | apply below_drew1) | exact HB.out))) : w.heap.size ≤ gb204)); clear HO198; clear HB; have HO198 := n0_; have HB := n1_; have BK204 := n2_; have GW204 := n3_; have GE204 := n4_; clear n0_ n1_ n2_ n3_ n4_; clear hb hbox hg; have hcz11_0 : w10.cell? ⟨gb204, 0, none⟩ = some (.string (⟨#[]⟩ : ByteArray)) := (blk_cell BK204.out 0).trans rfl; have hcz11_1 : w10.cell? ⟨gb204, 1, none⟩ = some (.int .i64 0) := (blk_cell BK204.out 1).trans rfl; have hcz11_2 : w10.cell? ⟨gb204, 2, none⟩ = some (.int .i64 0) := (blk_cell BK204.out 2).trans rfl; have hcz11_3 : w10.cell? ⟨gb204, 3, none⟩ = some (.int .i64 0) := (blk_cell BK204.out 3).trans rfl; have hcz11_4 : w10.cell? ⟨gb204, 4, none⟩ = some (.int .i64 0) := (blk_cell BK204.out 4).trans rfl; have hfz11_0 := blk_frozen BK204.out 0; have hfz11_1 := blk_frozen BK204.out 1; have hfz11_2 := blk_frozen BK204.out 2; have hfz11_3 := blk_frozen BK204.out 3; have hfz11_4 := blk_frozen BK204.out 4; obtain ⟨Ao12, co12, eo12⟩ := Kd.R_slice HO198.out; subst eo12) | (go_at_call 15; (with_reducible refine (dynamics_Check.calls t199 t200 t201 t202 t203 t205 _ A7.out).mono ?_); rintro e w13 ⟨rfl, hb⟩; have n0_ := Aside0.mk (Kd.R_below (by (with_reducible repeat (first | apply Kd.R_alloc | apply Kd.R_drewN | apply Kd.R_drew)); exact (Kd.R_mono (Kd.R_far (p := ⟨gb204, 4, none⟩) (Kd.R_far (p := ⟨gb204, 3, none⟩) (Kd.R_far (p := ⟨gb204, 2, none⟩) (Kd.R_far (p := ⟨gb204, 1, none⟩) (Kd.R_far (p := ⟨gb204, 0, none⟩) (Kd.R_types HO198.out BK204.out (by decide)) (fun _ hk => hk.2) (.string t199)) (fun _ hk => hk.2) (.int .i64 t200)) (fun _ hk => hk.2) (.int .i64 t201)) (fun _ hk => hk.2) (.int .i64 t202)) (fun _ hk => hk.2) (.int .i64 t203)) (fun _ h_ => h_.1))) hb); have n1_ := Aside0.mk (blk_below (g := gb204) (o := .cells #[.string t199, .int .i64 t200, .int .i64 t201, .int .i64 t202, .int .i64 t203] 26 (0, 0)) (by (with_reducible repeat (first | refine blk_drewN ?_ _ | refine blk_drew ?_ | refine blk_alloc ?_ _)); refine blk_put (cs := #[.string t199, .int .i64 t200, .int .i64 t201, .int .i64 t202, .int .i64 0]) ?_ 4 _ rfl; (with_reducible repeat (first | refine blk_drewN ?_ _ | refine blk_drew ?_ | refine blk_alloc ?_ _)); refine blk_put (cs := #[.string t199, .int .i64 t200, .int .i64 t201, .int .i64 0, .int .i64 0]) ?_ 3 _ rfl; (with_reducible repeat (first | refine blk_drewN ?_ _ | refine blk_drew ?_ | refine blk_alloc ?_ _)); refine blk_put (cs := #[.string t199, .int .i64 t200, .int .i64 0, .int .i64 0, .int .i64 0]) ?_ 2 _ rfl; (with_reducible repeat (first | refine blk_drewN ?_ _ | refine blk_drew ?_ | refine blk_alloc ?_ _)); refine blk_put (cs := #[.string t199, .int .i64 0, .int .i64 0, .int .i64 0, .int .i64 0]) ?_ 1 _ rfl; (with_reducible repeat (first | refine blk_drewN ?_ _ | refine blk_drew ?_ | refine blk_alloc ?_ _)); refine blk_put (cs := #[.string (⟨#[]⟩ : ByteArray), .int .i64 0, .int .i64 0, .int .i64 0, .int .i64 0]) ?_ 0 _ rfl; (with_reducible repeat (first | refine blk_drewN ?_ _ | refine blk_drew ?_ | refine blk_alloc ?_ _)); exact BK204.out) hb); have n2_ := Aside0.mk (below_step (by repeat (first | (with_reducible first | exact HB.out | apply below_alloc | apply pw_below_drewN | apply below_drew1 | refine below_set ?_ GE204.out) | exact HB.out)) hb); clear HO198; clear BK204; clear HB; have HO198 := n0_; have BK204 := n1_; have HB := n2_; clear n0_ n1_ n2_; (try clear hb); (try clear hb2); (try clear hk); (try clear hi))))
    go_ret
    exact ⟨by first | rfl | (simp [errW_none, errW_some] <;> rfl) | (simp [*, errW_none, errW_some] <;> rfl), by repeat (first | (with_reducible first | exact HB.out | apply below_alloc | apply pw_below_drewN | apply below_drew1 | refine below_set ?_ GE204.out) | exact HB.out)⟩
  · rw [if_neg c6] at H
    have c6b0 : decide ((t196.length : Int) < 2) = false := decide_eq_false c6
    have c6b1 : decide (t196.length < 2) = false := decide_eq_false (by omega)
    clear c6
    replace H := Option.bind_eq_some_iff.mp H
    obtain ⟨t206, A140, H⟩ := H
    replace H : ((dynamics_Times.f k t196 t206 t199 t200 t201 t202 t203).bind fun bt207 => ((dynamics_Run.f k t196 t206 t199 t200 t201 t202 t203).bind fun bt211 => (if bt207.2 = 0 then (if bt211.2 = 0 then (if (bt207.1.length : Int) = (wrap64 ((wrap64 ((t196.length : Int) - t206)) + 1)) then (if 0 < (bt207.1.length : Int) then (railplanlaw6_DynamicsTimesAscend.j0 k bt207.1 bt211.1 ((rd bt207.1 0) != 0)) else (none)) else (railplanlaw6_DynamicsTimesAscend.j0 k bt207.1 bt211.1 true)) else (railplanlaw6_DynamicsTimesAscend.j0 k bt207.1 bt211.1 true)) else (railplanlaw6_DynamicsTimesAscend.j0 k bt207.1 bt211.1 true)))) = some r := H
    have A14 := Aside0.mk A140
    clear A140
    replace H := Option.bind_eq_some_iff.mp H
    obtain ⟨⟨t207, t210⟩, A150, H⟩ := H
    replace H : ((dynamics_Run.f k t196 t206 t199 t200 t201 t202 t203).bind fun bt211 => (if t210 = 0 then (if bt211.2 = 0 then (if (t207.length : Int) = (wrap64 ((wrap64 ((t196.length : Int) - t206)) + 1)) then (if 0 < (t207.length : Int) then (railplanlaw6_DynamicsTimesAscend.j0 k t207 bt211.1 ((rd t207 0) != 0)) else (none)) else (railplanlaw6_DynamicsTimesAscend.j0 k t207 bt211.1 true)) else (railplanlaw6_DynamicsTimesAscend.j0 k t207 bt211.1 true)) else (railplanlaw6_DynamicsTimesAscend.j0 k t207 bt211.1 true))) = some r := H
    have A15 := Aside0.mk A150
    clear A150
    replace H := Option.bind_eq_some_iff.mp H
    obtain ⟨⟨t211, t212⟩, A160, H⟩ := H
    replace H : (if t210 = 0 then (if t212 = 0 then (if (t207.length : Int) = (wrap64 ((wrap64 ((t196.length : Int) - t206)) + 1)) then (if 0 < (t207.length : Int) then (railplanlaw6_DynamicsTimesAscend.j0 k t207 t211 ((rd t207 0) != 0)) else (none)) else (railplanlaw6_DynamicsTimesAscend.j0 k t207 t211 true)) else (railplanlaw6_DynamicsTimesAscend.j0 k t207 t211 true)) else (railplanlaw6_DynamicsTimesAscend.j0 k t207 t211 true)) = some r := H
    have A16 := Aside0.mk A160
    clear A160
    have HC17 := Aside0.mk H
    clear H
    go_enter Try.func12, Try.ntmps12
    go_upto_region 7 with (first | (go_at_call 13; (with_reducible refine (railplankeep_Cells.calls k _ _ l0 t196 _ ?side1 ?side2 A4.out).mono ?_); (case side1 => repeat (first | exact HR0.out | (with_reducible refine Kd.C_alloc ?_ _) | (with_reducible refine Kd.C_drewN ?_ _) | (with_reducible refine Kd.C_drew ?_))); (case side2 => exact HC0.out); rintro e w18 ⟨v197, rfl, ho0, hb⟩; have n0_ := Aside0.mk (Kd.R_lower ho0 (below_size (by repeat (first | (with_reducible first | exact HB.out | apply below_alloc | apply pw_below_drewN | apply below_drew1) | exact HB.out)))); have n1_ := Aside0.mk (below_step (by repeat (first | (with_reducible first | exact HB.out | apply below_alloc | apply pw_below_drewN | apply below_drew1) | exact HB.out)) hb); clear HB; have HO198 := n0_; have HB := n1_; clear n0_ n1_; (try clear hb); (try clear hb2); (try clear hk); (try clear hi); (try clear ho0)) | (go_at_call 14; (with_reducible refine (railplankeep_Stock.calls _ _ l1 t199 t200 t201 t202 t203 _ ?side1 ?side2 A5.out).mono ?_); (case side1 => repeat (first | exact (Kd.C_below HR1.out HB.out) | (with_reducible refine Kd.C_alloc ?_ _) | (with_reducible refine Kd.C_drewN ?_ _) | (with_reducible refine Kd.C_drew ?_))); (case side2 => exact HC1.out); rintro e w19 ⟨rfl, hb⟩; have n0_ := Aside0.mk (Kd.R_below (by (with_reducible repeat (first | apply Kd.R_alloc | apply Kd.R_drewN | apply Kd.R_drew)); exact HO198.out) hb); have n1_ := Aside0.mk (below_step (by repeat (first | (with_reducible first | exact HB.out | apply below_alloc | apply pw_below_drewN | apply below_drew1) | exact HB.out)) hb); clear HO198; clear HB; have HO198 := n0_; have HB := n1_; clear n0_ n1_; (try clear hb); (try clear hb2); (try clear hk); (try clear hi)) | ((with_reducible refine gate_dst (N := 8) rfl ?_); (try (refine gate_guard (by rfl) ?_; dsimp only)); refine box_event ?hg (N := 8) ?hd (cs := #[.string (⟨#[]⟩ : ByteArray), .int .i64 0, .int .i64 0, .int .i64 0, .int .i64 0]) (t := 26) ?hr ?_; (case hd => rfl); (case hg => rfl); (case hr => first | (go_simp; done) | (go_simp; rfl)); intro gb204 hg w20 hbox hb; have n0_ := Aside0.mk (Kd.R_below (by (with_reducible repeat (first | apply Kd.R_alloc | apply Kd.R_drewN | apply Kd.R_drew)); exact HO198.out) hb); have n1_ := Aside0.mk (below_step (by repeat (first | (with_reducible first | exact HB.out | apply below_alloc | apply pw_below_drewN | apply below_drew1) | exact HB.out)) hb); have n2_ := Aside0.mk (hbox); have n3_ := Aside0.mk ((by rw [hg]; exact (below_size (by repeat (first | (with_reducible first | exact HB.out | apply below_alloc | apply pw_below_drewN | apply below_drew1) | exact HB.out))) : w.heap.size ≤ gb204)); have n4_ := Aside0.mk ((by rw [hg]; exact (below_size (by repeat (first | (with_reducible first | exact HB.out | apply below_alloc | apply pw_below_drewN | apply below_drew1) | exact HB.out))) : w.heap.size ≤ gb204)); clear HO198; clear HB; have HO198 := n0_; have HB := n1_; have BK204 := n2_; have GW204 := n3_; have GE204 := n4_; clear n0_ n1_ n2_ n3_ n4_; clear hb hbox hg; have hcz21_0 : w20.cell? ⟨gb204, 0, none⟩ = some (.string (⟨#[]⟩ : ByteArray)) := (blk_cell BK204.out 0).trans rfl; have hcz21_1 : w20.cell? ⟨gb204, 1, none⟩ = some (.int .i64 0) := (blk_cell BK204.out 1).trans rfl; have hcz21_2 : w20.cell? ⟨gb204, 2, none⟩ = some (.int .i64 0) := (blk_cell BK204.out 2).trans rfl; have hcz21_3 : w20.cell? ⟨gb204, 3, none⟩ = some (.int .i64 0) := (blk_cell BK204.out 3).trans rfl; have hcz21_4 : w20.cell? ⟨gb204, 4, none⟩ = some (.int .i64 0) := (blk_cell BK204.out 4).trans rfl; have hfz21_0 := blk_frozen BK204.out 0; have hfz21_1 := blk_frozen BK204.out 1; have hfz21_2 := blk_frozen BK204.out 2; have hfz21_3 := blk_frozen BK204.out 3; have hfz21_4 := blk_frozen BK204.out 4; obtain ⟨Ao22, co22, eo22⟩ := Kd.R_slice HO198.out; subst eo22) | (go_at_call 16; (with_reducible refine (railplankeep_Pick.calls a2 (wrap64 ((t196.length : Int) - 1)) t206 _ A14.out).mono ?_); rintro e w' ⟨rfl, ⟨nd, rfl⟩⟩; (try first | exact ⟨rfl, _, World.drewN_drewN _ _ _⟩ | exact ⟨rfl, _, Eq.trans (World.drewN_drewN _ _ _) (congrArg (World.drewN _) (Nat.add_assoc _ _ _))⟩)) | (go_at_call 19; (with_reducible refine (dynamics_Times.calls k _ _ t196 t206 t199 t200 t201 t202 t203 t207 t210 _ ?side1 ?side2 A15.out).mono ?_); (case side1 => refine (Kd.R_reads' (e := 34) (base := w.heap.size) (ok := fun k_ => True) (n := t196.length) (c := co22) ?_).2.2; exact (by (with_reducible repeat (first | apply Kd.R_alloc | apply Kd.R_drewN | apply Kd.R_drew)); exact (Kd.R_mono (Kd.R_far (p := ⟨gb204, 4, none⟩) (Kd.R_far (p := ⟨gb204, 3, none⟩) (Kd.R_far (p := ⟨gb204, 2, none⟩) (Kd.R_far (p := ⟨gb204, 1, none⟩) (Kd.R_far (p := ⟨gb204, 0, none⟩) (Kd.R_types HO198.out BK204.out (by decide)) (fun _ hk => hk.2) (.string t199)) (fun _ hk => hk.2) (.int .i64 t200)) (fun _ hk => hk.2) (.int .i64 t201)) (fun _ hk => hk.2) (.int .i64 t202)) (fun _ hk => hk.2) (.int .i64 t203)) (fun _ h_ => h_.1)))); (case side2 => exact (Kd.R_reads' HO198.out).2.1); rintro e w23 ⟨v208, rfl, ho0, hb⟩; have n0_ := Aside0.mk (Kd.R_below (by (with_reducible repeat (first | apply Kd.R_alloc | apply Kd.R_drewN | apply Kd.R_drew)); exact (Kd.R_mono (Kd.R_far (p := ⟨gb204, 4, none⟩) (Kd.R_far (p := ⟨gb204, 3, none⟩) (Kd.R_far (p := ⟨gb204, 2, none⟩) (Kd.R_far (p := ⟨gb204, 1, none⟩) (Kd.R_far (p := ⟨gb204, 0, none⟩) (Kd.R_types HO198.out BK204.out (by decide)) (fun _ hk => hk.2) (.string t199)) (fun _ hk => hk.2) (.int .i64 t200)) (fun _ hk => hk.2) (.int .i64 t201)) (fun _ hk => hk.2) (.int .i64 t202)) (fun _ hk => hk.2) (.int .i64 t203)) (fun _ h_ => h_.1))) hb); have n1_ := Aside0.mk (Kd.R_lower ho0 (below_size (by repeat (first | (with_reducible first | exact HB.out | apply below_alloc | apply pw_below_drewN | apply below_drew1 | refine below_set ?_ GE204.out) | exact HB.out)))); have n2_ := Aside0.mk (blk_below (g := gb204) (o := .cells #[.string t199, .int .i64 t200, .int .i64 t201, .int .i64 t202, .int .i64 t203] 26 (0, 0)) (by (with_reducible repeat (first | refine blk_drewN ?_ _ | refine blk_drew ?_ | refine blk_alloc ?_ _)); refine blk_put (cs := #[.string t199, .int .i64 t200, .int .i64 t201, .int .i64 t202, .int .i64 0]) ?_ 4 _ rfl; (with_reducible repeat (first | refine blk_drewN ?_ _ | refine blk_drew ?_ | refine blk_alloc ?_ _)); refine blk_put (cs := #[.string t199, .int .i64 t200, .int .i64 t201, .int .i64 0, .int .i64 0]) ?_ 3 _ rfl; (with_reducible repeat (first | refine blk_drewN ?_ _ | refine blk_drew ?_ | refine blk_alloc ?_ _)); refine blk_put (cs := #[.string t199, .int .i64 t200, .int .i64 0, .int .i64 0, .int .i64 0]) ?_ 2 _ rfl; (with_reducible repeat (first | refine blk_drewN ?_ _ | refine blk_drew ?_ | refine blk_alloc ?_ _)); refine blk_put (cs := #[.string t199, .int .i64 0, .int .i64 0, .int .i64 0, .int .i64 0]) ?_ 1 _ rfl; (with_reducible repeat (first | refine blk_drewN ?_ _ | refine blk_drew ?_ | refine blk_alloc ?_ _)); refine blk_put (cs := #[.string (⟨#[]⟩ : ByteArray), .int .i64 0, .int .i64 0, .int .i64 0, .int .i64 0]) ?_ 0 _ rfl; (with_reducible repeat (first | refine blk_drewN ?_ _ | refine blk_drew ?_ | refine blk_alloc ?_ _)); exact BK204.out) hb); have n3_ := Aside0.mk (below_step (by repeat (first | (with_reducible first | exact HB.out | apply below_alloc | apply pw_below_drewN | apply below_drew1 | refine below_set ?_ GE204.out) | exact HB.out)) hb); clear HO198; clear BK204; clear HB; have HO198 := n0_; have HO209 := n1_; have BK204 := n2_; have HB := n3_; clear n0_ n1_ n2_ n3_; (try clear hb); (try clear hb2); (try clear hk); (try clear hi); (try clear ho0); have hcz24_0 : w23.cell? ⟨gb204, 0, none⟩ = some (.string t199) := (blk_cell BK204.out 0).trans rfl; have hcz24_1 : w23.cell? ⟨gb204, 1, none⟩ = some (.int .i64 t200) := (blk_cell BK204.out 1).trans rfl; have hcz24_2 : w23.cell? ⟨gb204, 2, none⟩ = some (.int .i64 t201) := (blk_cell BK204.out 2).trans rfl; have hcz24_3 : w23.cell? ⟨gb204, 3, none⟩ = some (.int .i64 t202) := (blk_cell BK204.out 3).trans rfl; have hcz24_4 : w23.cell? ⟨gb204, 4, none⟩ = some (.int .i64 t203) := (blk_cell BK204.out 4).trans rfl; have hfz24_0 := blk_frozen BK204.out 0; have hfz24_1 := blk_frozen BK204.out 1; have hfz24_2 := blk_frozen BK204.out 2; have hfz24_3 := blk_frozen BK204.out 3; have hfz24_4 := blk_frozen BK204.out 4) | (go_at_call 20; (with_reducible refine (dynamics_Run.calls k _ _ t196 t206 t199 t200 t201 t202 t203 t211 t212 _ ?side1 ?side2 A16.out).mono ?_); (case side1 => repeat (first | exact (Kd.R_reads' HO198.out).2.2 | (with_reducible refine Kd.C_alloc ?_ _) | (with_reducible refine Kd.C_drewN ?_ _) | (with_reducible refine Kd.C_drew ?_))); (case side2 => exact (Kd.R_reads' HO198.out).2.1); rintro e w25 ⟨rfl, hb⟩; have n0_ := Aside0.mk (Kd.R_below (by (with_reducible repeat (first | apply Kd.R_alloc | apply Kd.R_drewN | apply Kd.R_drew)); exact HO198.out) hb); have n1_ := Aside0.mk (Kd.R_below (by (with_reducible repeat (first | apply Kd.R_alloc | apply Kd.R_drewN | apply Kd.R_drew)); exact HO209.out) hb); have n2_ := Aside0.mk (blk_below (g := gb204) (o := .cells #[.string t199, .int .i64 t200, .int .i64 t201, .int .i64 t202, .int .i64 t203] 26 (0, 0)) (by (with_reducible repeat (first | refine blk_drewN ?_ _ | refine blk_drew ?_ | refine blk_alloc ?_ _)); exact BK204.out) hb); have n3_ := Aside0.mk (below_step (by repeat (first | (with_reducible first | exact HB.out | apply below_alloc | apply pw_below_drewN | apply below_drew1 | refine below_set ?_ GE204.out) | exact HB.out)) hb); clear HO198; clear HO209; clear BK204; clear HB; have HO198 := n0_; have HO209 := n1_; have BK204 := n2_; have HB := n3_; clear n0_ n1_ n2_ n3_; (try clear hb); (try clear hb2); (try clear hk); (try clear hi)))
    repeat (go_quiet (first | (go_at_call 13; (with_reducible refine (railplankeep_Cells.calls k _ _ l0 t196 _ ?side1 ?side2 A4.out).mono ?_); (case side1 => repeat (first | exact HR0.out | (with_reducible refine Kd.C_alloc ?_ _) | (with_reducible refine Kd.C_drewN ?_ _) | (with_reducible refine Kd.C_drew ?_))); (case side2 => exact HC0.out); rintro e w18 ⟨v197, rfl, ho0, hb⟩; have n0_ := Aside0.mk (Kd.R_lower ho0 (below_size (by repeat (first | (with_reducible first | exact HB.out | apply below_alloc | apply pw_below_drewN | apply below_drew1) | exact HB.out)))); have n1_ := Aside0.mk (below_step (by repeat (first | (with_reducible first | exact HB.out | apply below_alloc | apply pw_below_drewN | apply below_drew1) | exact HB.out)) hb); clear HB; have HO198 := n0_; have HB := n1_; clear n0_ n1_; (try clear hb); (try clear hb2); (try clear hk); (try clear hi); (try clear ho0)) | (go_at_call 14; (with_reducible refine (railplankeep_Stock.calls _ _ l1 t199 t200 t201 t202 t203 _ ?side1 ?side2 A5.out).mono ?_); (case side1 => repeat (first | exact (Kd.C_below HR1.out HB.out) | (with_reducible refine Kd.C_alloc ?_ _) | (with_reducible refine Kd.C_drewN ?_ _) | (with_reducible refine Kd.C_drew ?_))); (case side2 => exact HC1.out); rintro e w19 ⟨rfl, hb⟩; have n0_ := Aside0.mk (Kd.R_below (by (with_reducible repeat (first | apply Kd.R_alloc | apply Kd.R_drewN | apply Kd.R_drew)); exact HO198.out) hb); have n1_ := Aside0.mk (below_step (by repeat (first | (with_reducible first | exact HB.out | apply below_alloc | apply pw_below_drewN | apply below_drew1) | exact HB.out)) hb); clear HO198; clear HB; have HO198 := n0_; have HB := n1_; clear n0_ n1_; (try clear hb); (try clear hb2); (try clear hk); (try clear hi)) | ((with_reducible refine gate_dst (N := 8) rfl ?_); (try (refine gate_guard (by rfl) ?_; dsimp only)); refine box_event ?hg (N := 8) ?hd (cs := #[.string (⟨#[]⟩ : ByteArray), .int .i64 0, .int .i64 0, .int .i64 0, .int .i64 0]) (t := 26) ?hr ?_; (case hd => rfl); (case hg => rfl); (case hr => first | (go_simp; done) | (go_simp; rfl)); intro gb204 hg w20 hbox hb; have n0_ := Aside0.mk (Kd.R_below (by (with_reducible repeat (first | apply Kd.R_alloc | apply Kd.R_drewN | apply Kd.R_drew)); exact HO198.out) hb); have n1_ := Aside0.mk (below_step (by repeat (first | (with_reducible first | exact HB.out | apply below_alloc | apply pw_below_drewN | apply below_drew1) | exact HB.out)) hb); have n2_ := Aside0.mk (hbox); have n3_ := Aside0.mk ((by rw [hg]; exact (below_size (by repeat (first | (with_reducible first | exact HB.out | apply below_alloc | apply pw_below_drewN | apply below_drew1) | exact HB.out))) : w.heap.size ≤ gb204)); have n4_ := Aside0.mk ((by rw [hg]; exact (below_size (by repeat (first | (with_reducible first | exact HB.out | apply below_alloc | apply pw_below_drewN | apply below_drew1) | exact HB.out))) : w.heap.size ≤ gb204)); clear HO198; clear HB; have HO198 := n0_; have HB := n1_; have BK204 := n2_; have GW204 := n3_; have GE204 := n4_; clear n0_ n1_ n2_ n3_ n4_; clear hb hbox hg; have hcz21_0 : w20.cell? ⟨gb204, 0, none⟩ = some (.string (⟨#[]⟩ : ByteArray)) := (blk_cell BK204.out 0).trans rfl; have hcz21_1 : w20.cell? ⟨gb204, 1, none⟩ = some (.int .i64 0) := (blk_cell BK204.out 1).trans rfl; have hcz21_2 : w20.cell? ⟨gb204, 2, none⟩ = some (.int .i64 0) := (blk_cell BK204.out 2).trans rfl; have hcz21_3 : w20.cell? ⟨gb204, 3, none⟩ = some (.int .i64 0) := (blk_cell BK204.out 3).trans rfl; have hcz21_4 : w20.cell? ⟨gb204, 4, none⟩ = some (.int .i64 0) := (blk_cell BK204.out 4).trans rfl; have hfz21_0 := blk_frozen BK204.out 0; have hfz21_1 := blk_frozen BK204.out 1; have hfz21_2 := blk_frozen BK204.out 2; have hfz21_3 := blk_frozen BK204.out 3; have hfz21_4 := blk_frozen BK204.out 4; obtain ⟨Ao22, co22, eo22⟩ := Kd.R_slice HO198.out; subst eo22) | (go_at_call 16; (with_reducible refine (railplankeep_Pick.calls a2 (wrap64 ((t196.length : Int) - 1)) t206 _ A14.out).mono ?_); rintro e w' ⟨rfl, ⟨nd, rfl⟩⟩; (try first | exact ⟨rfl, _, World.drewN_drewN _ _ _⟩ | exact ⟨rfl, _, Eq.trans (World.drewN_drewN _ _ _) (congrArg (World.drewN _) (Nat.add_assoc _ _ _))⟩)) | (go_at_call 19; (with_reducible refine (dynamics_Times.calls k _ _ t196 t206 t199 t200 t201 t202 t203 t207 t210 _ ?side1 ?side2 A15.out).mono ?_); (case side1 => refine (Kd.R_reads' (e := 34) (base := w.heap.size) (ok := fun k_ => True) (n := t196.length) (c := co22) ?_).2.2; exact (by (with_reducible repeat (first | apply Kd.R_alloc | apply Kd.R_drewN | apply Kd.R_drew)); exact (Kd.R_mono (Kd.R_far (p := ⟨gb204, 4, none⟩) (Kd.R_far (p := ⟨gb204, 3, none⟩) (Kd.R_far (p := ⟨gb204, 2, none⟩) (Kd.R_far (p := ⟨gb204, 1, none⟩) (Kd.R_far (p := ⟨gb204, 0, none⟩) (Kd.R_types HO198.out BK204.out (by decide)) (fun _ hk => hk.2) (.string t199)) (fun _ hk => hk.2) (.int .i64 t200)) (fun _ hk => hk.2) (.int .i64 t201)) (fun _ hk => hk.2) (.int .i64 t202)) (fun _ hk => hk.2) (.int .i64 t203)) (fun _ h_ => h_.1)))); (case side2 => exact (Kd.R_reads' HO198.out).2.1); rintro e w23 ⟨v208, rfl, ho0, hb⟩; have n0_ := Aside0.mk (Kd.R_below (by (with_reducible repeat (first | apply Kd.R_alloc | apply Kd.R_drewN | apply Kd.R_drew)); exact (Kd.R_mono (Kd.R_far (p := ⟨gb204, 4, none⟩) (Kd.R_far (p := ⟨gb204, 3, none⟩) (Kd.R_far (p := ⟨gb204, 2, none⟩) (Kd.R_far (p := ⟨gb204, 1, none⟩) (Kd.R_far (p := ⟨gb204, 0, none⟩) (Kd.R_types HO198.out BK204.out (by decide)) (fun _ hk => hk.2) (.string t199)) (fun _ hk => hk.2) (.int .i64 t200)) (fun _ hk => hk.2) (.int .i64 t201)) (fun _ hk => hk.2) (.int .i64 t202)) (fun _ hk => hk.2) (.int .i64 t203)) (fun _ h_ => h_.1))) hb); have n1_ := Aside0.mk (Kd.R_lower ho0 (below_size (by repeat (first | (with_reducible first | exact HB.out | apply below_alloc | apply pw_below_drewN | apply below_drew1 | refine below_set ?_ GE204.out) | exact HB.out)))); have n2_ := Aside0.mk (blk_below (g := gb204) (o := .cells #[.string t199, .int .i64 t200, .int .i64 t201, .int .i64 t202, .int .i64 t203] 26 (0, 0)) (by (with_reducible repeat (first | refine blk_drewN ?_ _ | refine blk_drew ?_ | refine blk_alloc ?_ _)); refine blk_put (cs := #[.string t199, .int .i64 t200, .int .i64 t201, .int .i64 t202, .int .i64 0]) ?_ 4 _ rfl; (with_reducible repeat (first | refine blk_drewN ?_ _ | refine blk_drew ?_ | refine blk_alloc ?_ _)); refine blk_put (cs := #[.string t199, .int .i64 t200, .int .i64 t201, .int .i64 0, .int .i64 0]) ?_ 3 _ rfl; (with_reducible repeat (first | refine blk_drewN ?_ _ | refine blk_drew ?_ | refine blk_alloc ?_ _)); refine blk_put (cs := #[.string t199, .int .i64 t200, .int .i64 0, .int .i64 0, .int .i64 0]) ?_ 2 _ rfl; (with_reducible repeat (first | refine blk_drewN ?_ _ | refine blk_drew ?_ | refine blk_alloc ?_ _)); refine blk_put (cs := #[.string t199, .int .i64 0, .int .i64 0, .int .i64 0, .int .i64 0]) ?_ 1 _ rfl; (with_reducible repeat (first | refine blk_drewN ?_ _ | refine blk_drew ?_ | refine blk_alloc ?_ _)); refine blk_put (cs := #[.string (⟨#[]⟩ : ByteArray), .int .i64 0, .int .i64 0, .int .i64 0, .int .i64 0]) ?_ 0 _ rfl; (with_reducible repeat (first | refine blk_drewN ?_ _ | refine blk_drew ?_ | refine blk_alloc ?_ _)); exact BK204.out) hb); have n3_ := Aside0.mk (below_step (by repeat (first | (with_reducible first | exact HB.out | apply below_alloc | apply pw_below_drewN | apply below_drew1 | refine below_set ?_ GE204.out) | exact HB.out)) hb); clear HO198; clear BK204; clear HB; have HO198 := n0_; have HO209 := n1_; have BK204 := n2_; have HB := n3_; clear n0_ n1_ n2_ n3_; (try clear hb); (try clear hb2); (try clear hk); (try clear hi); (try clear ho0); have hcz24_0 : w23.cell? ⟨gb204, 0, none⟩ = some (.string t199) := (blk_cell BK204.out 0).trans rfl; have hcz24_1 : w23.cell? ⟨gb204, 1, none⟩ = some (.int .i64 t200) := (blk_cell BK204.out 1).trans rfl; have hcz24_2 : w23.cell? ⟨gb204, 2, none⟩ = some (.int .i64 t201) := (blk_cell BK204.out 2).trans rfl; have hcz24_3 : w23.cell? ⟨gb204, 3, none⟩ = some (.int .i64 t202) := (blk_cell BK204.out 3).trans rfl; have hcz24_4 : w23.cell? ⟨gb204, 4, none⟩ = some (.int .i64 t203) := (blk_cell BK204.out 4).trans rfl; have hfz24_0 := blk_frozen BK204.out 0; have hfz24_1 := blk_frozen BK204.out 1; have hfz24_2 := blk_frozen BK204.out 2; have hfz24_3 := blk_frozen BK204.out 3; have hfz24_4 := blk_frozen BK204.out 4) | (go_at_call 20; (with_reducible refine (dynamics_Run.calls k _ _ t196 t206 t199 t200 t201 t202 t203 t211 t212 _ ?side1 ?side2 A16.out).mono ?_); (case side1 => repeat (first | exact (Kd.R_reads' HO198.out).2.2 | (with_reducible refine Kd.C_alloc ?_ _) | (with_reducible refine Kd.C_drewN ?_ _) | (with_reducible refine Kd.C_drew ?_))); (case side2 => exact (Kd.R_reads' HO198.out).2.1); rintro e w25 ⟨rfl, hb⟩; have n0_ := Aside0.mk (Kd.R_below (by (with_reducible repeat (first | apply Kd.R_alloc | apply Kd.R_drewN | apply Kd.R_drew)); exact HO198.out) hb); have n1_ := Aside0.mk (Kd.R_below (by (with_reducible repeat (first | apply Kd.R_alloc | apply Kd.R_drewN | apply Kd.R_drew)); exact HO209.out) hb); have n2_ := Aside0.mk (blk_below (g := gb204) (o := .cells #[.string t199, .int .i64 t200, .int .i64 t201, .int .i64 t202, .int .i64 t203] 26 (0, 0)) (by (with_reducible repeat (first | refine blk_drewN ?_ _ | refine blk_drew ?_ | refine blk_alloc ?_ _)); exact BK204.out) hb); have n3_ := Aside0.mk (below_step (by repeat (first | (with_reducible first | exact HB.out | apply below_alloc | apply pw_below_drewN | apply below_drew1 | refine below_set ?_ GE204.out) | exact HB.out)) hb); clear HO198; clear HO209; clear BK204; clear HB; have HO198 := n0_; have HO209 := n1_; have BK204 := n2_; have HB := n3_; clear n0_ n1_ n2_ n3_; (try clear hb); (try clear hb2); (try clear hk); (try clear hi))); go_upto_region 7 with (first | (go_at_call 13; (with_reducible refine (railplankeep_Cells.calls k _ _ l0 t196 _ ?side1 ?side2 A4.out).mono ?_); (case side1 => repeat (first | exact HR0.out | (with_reducible refine Kd.C_alloc ?_ _) | (with_reducible refine Kd.C_drewN ?_ _) | (with_reducible refine Kd.C_drew ?_))); (case side2 => exact HC0.out); rintro e w18 ⟨v197, rfl, ho0, hb⟩; have n0_ := Aside0.mk (Kd.R_lower ho0 (below_size (by repeat (first | (with_reducible first | exact HB.out | apply below_alloc | apply pw_below_drewN | apply below_drew1) | exact HB.out)))); have n1_ := Aside0.mk (below_step (by repeat (first | (with_reducible first | exact HB.out | apply below_alloc | apply pw_below_drewN | apply below_drew1) | exact HB.out)) hb); clear HB; have HO198 := n0_; have HB := n1_; clear n0_ n1_; (try clear hb); (try clear hb2); (try clear hk); (try clear hi); (try clear ho0)) | (go_at_call 14; (with_reducible refine (railplankeep_Stock.calls _ _ l1 t199 t200 t201 t202 t203 _ ?side1 ?side2 A5.out).mono ?_); (case side1 => repeat (first | exact (Kd.C_below HR1.out HB.out) | (with_reducible refine Kd.C_alloc ?_ _) | (with_reducible refine Kd.C_drewN ?_ _) | (with_reducible refine Kd.C_drew ?_))); (case side2 => exact HC1.out); rintro e w19 ⟨rfl, hb⟩; have n0_ := Aside0.mk (Kd.R_below (by (with_reducible repeat (first | apply Kd.R_alloc | apply Kd.R_drewN | apply Kd.R_drew)); exact HO198.out) hb); have n1_ := Aside0.mk (below_step (by repeat (first | (with_reducible first | exact HB.out | apply below_alloc | apply pw_below_drewN | apply below_drew1) | exact HB.out)) hb); clear HO198; clear HB; have HO198 := n0_; have HB := n1_; clear n0_ n1_; (try clear hb); (try clear hb2); (try clear hk); (try clear hi)) | ((with_reducible refine gate_dst (N := 8) rfl ?_); (try (refine gate_guard (by rfl) ?_; dsimp only)); refine box_event ?hg (N := 8) ?hd (cs := #[.string (⟨#[]⟩ : ByteArray), .int .i64 0, .int .i64 0, .int .i64 0, .int .i64 0]) (t := 26) ?hr ?_; (case hd => rfl); (case hg => rfl); (case hr => first | (go_simp; done) | (go_simp; rfl)); intro gb204 hg w20 hbox hb; have n0_ := Aside0.mk (Kd.R_below (by (with_reducible repeat (first | apply Kd.R_alloc | apply Kd.R_drewN | apply Kd.R_drew)); exact HO198.out) hb); have n1_ := Aside0.mk (below_step (by repeat (first | (with_reducible first | exact HB.out | apply below_alloc | apply pw_below_drewN | apply below_drew1) | exact HB.out)) hb); have n2_ := Aside0.mk (hbox); have n3_ := Aside0.mk ((by rw [hg]; exact (below_size (by repeat (first | (with_reducible first | exact HB.out | apply below_alloc | apply pw_below_drewN | apply below_drew1) | exact HB.out))) : w.heap.size ≤ gb204)); have n4_ := Aside0.mk ((by rw [hg]; exact (below_size (by repeat (first | (with_reducible first | exact HB.out | apply below_alloc | apply pw_below_drewN | apply below_drew1) | exact HB.out))) : w.heap.size ≤ gb204)); clear HO198; clear HB; have HO198 := n0_; have HB := n1_; have BK204 := n2_; have GW204 := n3_; have GE204 := n4_; clear n0_ n1_ n2_ n3_ n4_; clear hb hbox hg; have hcz21_0 : w20.cell? ⟨gb204, 0, none⟩ = some (.string (⟨#[]⟩ : ByteArray)) := (blk_cell BK204.out 0).trans rfl; have hcz21_1 : w20.cell? ⟨gb204, 1, none⟩ = some (.int .i64 0) := (blk_cell BK204.out 1).trans rfl; have hcz21_2 : w20.cell? ⟨gb204, 2, none⟩ = some (.int .i64 0) := (blk_cell BK204.out 2).trans rfl; have hcz21_3 : w20.cell? ⟨gb204, 3, none⟩ = some (.int .i64 0) := (blk_cell BK204.out 3).trans rfl; have hcz21_4 : w20.cell? ⟨gb204, 4, none⟩ = some (.int .i64 0) := (blk_cell BK204.out 4).trans rfl; have hfz21_0 := blk_frozen BK204.out 0; have hfz21_1 := blk_frozen BK204.out 1; have hfz21_2 := blk_frozen BK204.out 2; have hfz21_3 := blk_frozen BK204.out 3; have hfz21_4 := blk_frozen BK204.out 4; obtain ⟨Ao22, co22, eo22⟩ := Kd.R_slice HO198.out; subst eo22) | (go_at_call 16; (with_reducible refine (railplankeep_Pick.calls a2 (wrap64 ((t196.length : Int) - 1)) t206 _ A14.out).mono ?_); rintro e w' ⟨rfl, ⟨nd, rfl⟩⟩; (try first | exact ⟨rfl, _, World.drewN_drewN _ _ _⟩ | exact ⟨rfl, _, Eq.trans (World.drewN_drewN _ _ _) (congrArg (World.drewN _) (Nat.add_assoc _ _ _))⟩)) | (go_at_call 19; (with_reducible refine (dynamics_Times.calls k _ _ t196 t206 t199 t200 t201 t202 t203 t207 t210 _ ?side1 ?side2 A15.out).mono ?_); (case side1 => refine (Kd.R_reads' (e := 34) (base := w.heap.size) (ok := fun k_ => True) (n := t196.length) (c := co22) ?_).2.2; exact (by (with_reducible repeat (first | apply Kd.R_alloc | apply Kd.R_drewN | apply Kd.R_drew)); exact (Kd.R_mono (Kd.R_far (p := ⟨gb204, 4, none⟩) (Kd.R_far (p := ⟨gb204, 3, none⟩) (Kd.R_far (p := ⟨gb204, 2, none⟩) (Kd.R_far (p := ⟨gb204, 1, none⟩) (Kd.R_far (p := ⟨gb204, 0, none⟩) (Kd.R_types HO198.out BK204.out (by decide)) (fun _ hk => hk.2) (.string t199)) (fun _ hk => hk.2) (.int .i64 t200)) (fun _ hk => hk.2) (.int .i64 t201)) (fun _ hk => hk.2) (.int .i64 t202)) (fun _ hk => hk.2) (.int .i64 t203)) (fun _ h_ => h_.1)))); (case side2 => exact (Kd.R_reads' HO198.out).2.1); rintro e w23 ⟨v208, rfl, ho0, hb⟩; have n0_ := Aside0.mk (Kd.R_below (by (with_reducible repeat (first | apply Kd.R_alloc | apply Kd.R_drewN | apply Kd.R_drew)); exact (Kd.R_mono (Kd.R_far (p := ⟨gb204, 4, none⟩) (Kd.R_far (p := ⟨gb204, 3, none⟩) (Kd.R_far (p := ⟨gb204, 2, none⟩) (Kd.R_far (p := ⟨gb204, 1, none⟩) (Kd.R_far (p := ⟨gb204, 0, none⟩) (Kd.R_types HO198.out BK204.out (by decide)) (fun _ hk => hk.2) (.string t199)) (fun _ hk => hk.2) (.int .i64 t200)) (fun _ hk => hk.2) (.int .i64 t201)) (fun _ hk => hk.2) (.int .i64 t202)) (fun _ hk => hk.2) (.int .i64 t203)) (fun _ h_ => h_.1))) hb); have n1_ := Aside0.mk (Kd.R_lower ho0 (below_size (by repeat (first | (with_reducible first | exact HB.out | apply below_alloc | apply pw_below_drewN | apply below_drew1 | refine below_set ?_ GE204.out) | exact HB.out)))); have n2_ := Aside0.mk (blk_below (g := gb204) (o := .cells #[.string t199, .int .i64 t200, .int .i64 t201, .int .i64 t202, .int .i64 t203] 26 (0, 0)) (by (with_reducible repeat (first | refine blk_drewN ?_ _ | refine blk_drew ?_ | refine blk_alloc ?_ _)); refine blk_put (cs := #[.string t199, .int .i64 t200, .int .i64 t201, .int .i64 t202, .int .i64 0]) ?_ 4 _ rfl; (with_reducible repeat (first | refine blk_drewN ?_ _ | refine blk_drew ?_ | refine blk_alloc ?_ _)); refine blk_put (cs := #[.string t199, .int .i64 t200, .int .i64 t201, .int .i64 0, .int .i64 0]) ?_ 3 _ rfl; (with_reducible repeat (first | refine blk_drewN ?_ _ | refine blk_drew ?_ | refine blk_alloc ?_ _)); refine blk_put (cs := #[.string t199, .int .i64 t200, .int .i64 0, .int .i64 0, .int .i64 0]) ?_ 2 _ rfl; (with_reducible repeat (first | refine blk_drewN ?_ _ | refine blk_drew ?_ | refine blk_alloc ?_ _)); refine blk_put (cs := #[.string t199, .int .i64 0, .int .i64 0, .int .i64 0, .int .i64 0]) ?_ 1 _ rfl; (with_reducible repeat (first | refine blk_drewN ?_ _ | refine blk_drew ?_ | refine blk_alloc ?_ _)); refine blk_put (cs := #[.string (⟨#[]⟩ : ByteArray), .int .i64 0, .int .i64 0, .int .i64 0, .int .i64 0]) ?_ 0 _ rfl; (with_reducible repeat (first | refine blk_drewN ?_ _ | refine blk_drew ?_ | refine blk_alloc ?_ _)); exact BK204.out) hb); have n3_ := Aside0.mk (below_step (by repeat (first | (with_reducible first | exact HB.out | apply below_alloc | apply pw_below_drewN | apply below_drew1 | refine below_set ?_ GE204.out) | exact HB.out)) hb); clear HO198; clear BK204; clear HB; have HO198 := n0_; have HO209 := n1_; have BK204 := n2_; have HB := n3_; clear n0_ n1_ n2_ n3_; (try clear hb); (try clear hb2); (try clear hk); (try clear hi); (try clear ho0); have hcz24_0 : w23.cell? ⟨gb204, 0, none⟩ = some (.string t199) := (blk_cell BK204.out 0).trans rfl; have hcz24_1 : w23.cell? ⟨gb204, 1, none⟩ = some (.int .i64 t200) := (blk_cell BK204.out 1).trans rfl; have hcz24_2 : w23.cell? ⟨gb204, 2, none⟩ = some (.int .i64 t201) := (blk_cell BK204.out 2).trans rfl; have hcz24_3 : w23.cell? ⟨gb204, 3, none⟩ = some (.int .i64 t202) := (blk_cell BK204.out 3).trans rfl; have hcz24_4 : w23.cell? ⟨gb204, 4, none⟩ = some (.int .i64 t203) := (blk_cell BK204.out 4).trans rfl; have hfz24_0 := blk_frozen BK204.out 0; have hfz24_1 := blk_frozen BK204.out 1; have hfz24_2 := blk_frozen BK204.out 2; have hfz24_3 := blk_frozen BK204.out 3; have hfz24_4 := blk_frozen BK204.out 4) | (go_at_call 20; (with_reducible refine (dynamics_Run.calls k _ _ t196 t206 t199 t200 t201 t202 t203 t211 t212 _ ?side1 ?side2 A16.out).mono ?_); (case side1 => repeat (first | exact (Kd.R_reads' HO198.out).2.2 | (with_reducible refine Kd.C_alloc ?_ _) | (with_reducible refine Kd.C_drewN ?_ _) | (with_reducible refine Kd.C_drew ?_))); (case side2 => exact (Kd.R_reads' HO198.out).2.1); rintro e w25 ⟨rfl, hb⟩; have n0_ := Aside0.mk (Kd.R_below (by (with_reducible repeat (first | apply Kd.R_alloc | apply Kd.R_drewN | apply Kd.R_drew)); exact HO198.out) hb); have n1_ := Aside0.mk (Kd.R_below (by (with_reducible repeat (first | apply Kd.R_alloc | apply Kd.R_drewN | apply Kd.R_drew)); exact HO209.out) hb); have n2_ := Aside0.mk (blk_below (g := gb204) (o := .cells #[.string t199, .int .i64 t200, .int .i64 t201, .int .i64 t202, .int .i64 t203] 26 (0, 0)) (by (with_reducible repeat (first | refine blk_drewN ?_ _ | refine blk_drew ?_ | refine blk_alloc ?_ _)); exact BK204.out) hb); have n3_ := Aside0.mk (below_step (by repeat (first | (with_reducible first | exact HB.out | apply below_alloc | apply pw_below_drewN | apply below_drew1 | refine below_set ?_ GE204.out) | exact HB.out)) hb); clear HO198; clear HO209; clear BK204; clear HB; have HO198 := n0_; have HO209 := n1_; have BK204 := n2_; have HB := n3_; clear n0_ n1_ n2_ n3_; (try clear hb); (try clear hb2); (try clear hk); (try clear hi))))
    (try simp only [Act.put, List.setIfInBounds_toArray, List.set_cons_zero, List.set_cons_succ])
    go_cut [63] (fun v63 wc => ∃ (kq : Nat) (x63_16 : Bool), v63 = .bool x63_16 ∧ Aside0 (railplanlaw6_DynamicsTimesAscend.j0 kq t207 t211 x63_16 = some r) ∧ Aside0 (kq ≤ k) ∧ Aside0 (Kd.R (Kd.int .i64) 3 wc w.heap.size (fun _ => True) v208 t207) ∧ Aside0 (wc.heap[gb204]? = some (.cells #[.string t199, .int .i64 t200, .int .i64 t201, .int .i64 t202, .int .i64 t203] 26 (0, 0))) ∧ Aside0 (Below w.heap.size w wc))
    case first =>
      have H := HC17.out
      clear HC17
      by_cases c26 : t210 = 0
      · rw [if_pos c26] at H
        have c26b0 : (t210 == 0) = true := beq_iff_eq.mpr c26
        have c26b1 : (t210 != 0) = false := bne_eq_false_iff_eq.mpr c26
        clear c26
        (first | rw [c26b0] | (simp only [i64_w, i32_w]; rw [c26b0]) | skip)
        by_cases c27 : t212 = 0
        · rw [if_pos c27] at H
          have c27b0 : (t212 == 0) = true := beq_iff_eq.mpr c27
          have c27b1 : (t212 != 0) = false := bne_eq_false_iff_eq.mpr c27
          clear c27
          by_cases c28 : (t207.length : Int) = (wrap64 ((wrap64 ((t196.length : Int) - t206)) + 1))
          · rw [if_pos c28] at H
            have c28b0 : ((t207.length : Int) == (wrap64 ((wrap64 ((t196.length : Int) - t206)) + 1))) = true := beq_iff_eq.mpr c28
            have c28b1 : ((t207.length : Int) != (wrap64 ((wrap64 ((t196.length : Int) - t206)) + 1))) = false := bne_eq_false_iff_eq.mpr c28
            clear c28
            by_cases c29 : 0 < (t207.length : Int)
            · rw [if_pos c29] at H
              have c29b0 : decide (0 < (t207.length : Int)) = true := decide_eq_true c29
              have c29b1 : decide (0 < t207.length) = true := decide_eq_true (by omega)
              clear c29
              have H' := Aside0.mk H
              clear H
              obtain ⟨Ao30, co30, eo30⟩ := Kd.R_slice HO209.out
              subst eo30
              have p213 : 0 ≤ (0 : Int) := (by omega)
              have q213 : 0 < (t207.length : Int) := of_decide_eq_true (by first | (with_reducible assumption) | assumption)
              obtain ⟨ad213, e213, hx213_0⟩ := Kd.at_int (Kd.R_reads' HO209.out).2.2 0 p213 q213
              cases e213
              have qi213 : (0 < t207.length) = True := eq_true (by omega)
              (try rw [show ((0 : Int)).toNat = 0 from rfl] at hx213_0)
              (try rw [Addr.add_zero'] at hx213_0)
              replace p213 := eq_true p213
              replace q213 := eq_true q213
              go_wp2
              repeat (go_quiet (fail); try go_wp2)
              go_meet
              case rel => exact ⟨_, (((rd t207 0) != 0)), (by first | rfl | (simp; done) | (simp [*]; done)), H', ⟨by first | omega | exact Nat.le_refl _⟩, ⟨by (with_reducible repeat (first | apply Kd.R_alloc | apply Kd.R_drewN | apply Kd.R_drew)); exact HO209.out⟩, ⟨by (with_reducible repeat (first | refine blk_drewN ?_ _ | refine blk_drew ?_ | refine blk_alloc ?_ _)); exact BK204.out⟩, ⟨by repeat (first | (with_reducible first | exact HB.out | apply below_alloc | apply pw_below_drewN | apply below_drew1 | refine below_set ?_ GE204.out) | exact HB.out)⟩⟩
            · rw [if_neg c29] at H
              exact absurd H (by simp)
          · rw [if_neg c28] at H
            have c28b0 : ((t207.length : Int) == (wrap64 ((wrap64 ((t196.length : Int) - t206)) + 1))) = false := beq_eq_false_iff_ne.mpr c28
            have c28b1 : ((t207.length : Int) != (wrap64 ((wrap64 ((t196.length : Int) - t206)) + 1))) = true := bne_iff_ne.mpr c28
            have H' := Aside0.mk H
            clear H
            obtain ⟨Ao31, co31, eo31⟩ := Kd.R_slice HO209.out
            subst eo31
            go_wp2
            repeat (go_quiet (fail); try go_wp2)
            go_meet
            case rel => exact ⟨_, (true), (by first | rfl | (simp; done) | (simp [*]; done)), H', ⟨by first | omega | exact Nat.le_refl _⟩, ⟨by (with_reducible repeat (first | apply Kd.R_alloc | apply Kd.R_drewN | apply Kd.R_drew)); exact HO209.out⟩, ⟨by (with_reducible repeat (first | refine blk_drewN ?_ _ | refine blk_drew ?_ | refine blk_alloc ?_ _)); exact BK204.out⟩, ⟨by repeat (first | (with_reducible first | exact HB.out | apply below_alloc | apply pw_below_drewN | apply below_drew1 | refine below_set ?_ GE204.out) | exact HB.out)⟩⟩
        · rw [if_neg c27] at H
          have c27b0 : (t212 == 0) = false := beq_eq_false_iff_ne.mpr c27
          have c27b1 : (t212 != 0) = true := bne_iff_ne.mpr c27
          have H' := Aside0.mk H
          clear H
          go_wp2
          repeat (go_quiet (fail); try go_wp2)
          go_meet
          case rel => exact ⟨_, (true), (by first | rfl | (simp; done) | (simp [*]; done)), H', ⟨by first | omega | exact Nat.le_refl _⟩, ⟨by (with_reducible repeat (first | apply Kd.R_alloc | apply Kd.R_drewN | apply Kd.R_drew)); exact HO209.out⟩, ⟨by (with_reducible repeat (first | refine blk_drewN ?_ _ | refine blk_drew ?_ | refine blk_alloc ?_ _)); exact BK204.out⟩, ⟨by repeat (first | (with_reducible first | exact HB.out | apply below_alloc | apply pw_below_drewN | apply below_drew1 | refine below_set ?_ GE204.out) | exact HB.out)⟩⟩
      · rw [if_neg c26] at H
        have c26b0 : (t210 == 0) = false := beq_eq_false_iff_ne.mpr c26
        have c26b1 : (t210 != 0) = true := bne_iff_ne.mpr c26
        (first | rw [c26b0] | (simp only [i64_w, i32_w]; rw [c26b0]) | skip)
        have H' := Aside0.mk H
        clear H
        go_wp2
        repeat (go_quiet (fail); try go_wp2)
        go_meet
        case rel => exact ⟨_, (true), (by first | rfl | (simp; done) | (simp [*]; done)), H', ⟨by first | omega | exact Nat.le_refl _⟩, ⟨by (with_reducible repeat (first | apply Kd.R_alloc | apply Kd.R_drewN | apply Kd.R_drew)); exact HO209.out⟩, ⟨by (with_reducible repeat (first | refine blk_drewN ?_ _ | refine blk_drew ?_ | refine blk_alloc ?_ _)); exact BK204.out⟩, ⟨by repeat (first | (with_reducible first | exact HB.out | apply below_alloc | apply pw_below_drewN | apply below_drew1 | refine below_set ?_ GE204.out) | exact HB.out)⟩⟩
    case rest =>
      clear HC17
      try clear c1
      try clear c2
      try clear p2
      try clear q2
      try clear hx2
      try clear qi2
      try clear c6
      try clear c6b0
      try clear c6b1
      try clear p6
      try clear c12
      try clear p21
      try clear q21
      try clear hx21
      try clear qi21
      try clear c26
      try clear c26b0
      try clear c26b1
      try clear c27
      try clear c27b0
      try clear c27b1
      try clear c28
      try clear c28b0
      try clear c28b1
      try clear c29
      try clear c29b0
      try clear c29b1
      try clear hcz11_0
      try clear hcz11_1
      try clear hcz11_2
      try clear hcz11_3
      try clear hcz11_4
      try clear hcz21_0
      try clear hcz21_1
      try clear hcz21_2
      try clear hcz21_3
      try clear hcz21_4
      try clear hcz24_0
      try clear hcz24_1
      try clear hcz24_2
      try clear hcz24_3
      try clear hcz24_4
      try clear hfz11_0
      try clear hfz11_1
      try clear hfz11_2
      try clear hfz11_3
      try clear hfz11_4
      try clear hfz21_0
      try clear hfz21_1
      try clear hfz21_2
      try clear hfz21_3
      try clear hfz21_4
      try clear hfz24_0
      try clear hfz24_1
      try clear hfz24_2
      try clear hfz24_3
      try clear hfz24_4
      try clear hx213_0
      try clear p213
      try clear q213
      obtain ⟨kq, x63_16, rfl, HA, HJ16, HO_9, BK204, HB⟩ := hcut
      cases kq with
      | zero => exact absurd HA.out (by simp [railplanlaw6_DynamicsTimesAscend.j0])
      | succ kj16 =>
        have H := HA.out
        clear HA
        simp only [railplanlaw6_DynamicsTimesAscend.j0] at H
        by_cases c32 : x63_16 = true
        · subst c32
          have H1 : (some false) = some r := by rw [if_pos rfl] at H; exact H
          clear H
          have H := H1
          clear H1
          obtain rfl := Option.some.inj H
          go_wp2
          repeat (go_quiet (fail); try go_wp2)
          go_ret
          exact ⟨by first | rfl | (simp [errW_none, errW_some] <;> rfl) | (simp [*, errW_none, errW_some] <;> rfl), by repeat (first | (with_reducible first | exact HB.out | apply below_alloc | apply pw_below_drewN | apply below_drew1 | refine below_set ?_ GE204.out) | exact HB.out)⟩
        · replace c32 := Bool.eq_false_iff.mpr c32
          subst c32
          have H1 : (railplanlaw6_DynamicsTimesAscend.l0 kj16 t207 t211 1) = some r := by rw [if_neg (show ¬ (false = true) by decide)] at H; exact H
          clear H
          have H := H1
          clear H1
          have H' := Aside0.mk H
          clear H
          go_wp2
          repeat (go_quiet (fail); try go_wp2)
          go_loopg [13] kj16 (fun kq v13 w' => ∃ (x13_2 : Int), v13 = .int .i64 x13_2 ∧ Aside0 (railplanlaw6_DynamicsTimesAscend.l0 kq t207 t211 x13_2 = some r) ∧ Aside0 (kq ≤ kj16) ∧ Aside0 (Kd.R (Kd.int .i64) 3 w' w.heap.size (fun _ => True) v208 t207) ∧ Aside0 (w'.heap[gb204]? = some (.cells #[.string t199, .int .i64 t200, .int .i64 t201, .int .i64 t202, .int .i64 t203] 26 (0, 0))) ∧ Aside0 (Below w.heap.size w w'))
          case atStart => exact ⟨(1), (by first | rfl | (simp; done) | (simp [*]; done)), H', ⟨Nat.le_refl _⟩, ⟨by (with_reducible repeat (first | apply Kd.R_alloc | apply Kd.R_drewN | apply Kd.R_drew)); exact HO_9.out⟩, ⟨by (with_reducible repeat (first | refine blk_drewN ?_ _ | refine blk_drew ?_ | refine blk_alloc ?_ _)); exact BK204.out⟩, ⟨by repeat (first | (with_reducible first | exact HB.out | apply below_alloc | apply pw_below_drewN | apply below_drew1 | refine below_set ?_ GE204.out) | exact HB.out)⟩⟩
          case round =>
            clear H'
            try clear c1
            try clear c2
            try clear p2
            try clear q2
            try clear hx2
            try clear qi2
            try clear c3
            try clear c6
            try clear c6b0
            try clear c6b1
            try clear p6
            try clear c12
            try clear p21
            try clear q21
            try clear hx21
            try clear qi21
            try clear c26
            try clear c26b0
            try clear c26b1
            try clear c27
            try clear c27b0
            try clear c27b1
            try clear c28
            try clear c28b0
            try clear c28b1
            try clear c29
            try clear c29b0
            try clear c29b1
            try clear c32
            try clear hcz11_0
            try clear hcz11_1
            try clear hcz11_2
            try clear hcz11_3
            try clear hcz11_4
            try clear hcz21_0
            try clear hcz21_1
            try clear hcz21_2
            try clear hcz21_3
            try clear hcz21_4
            try clear hcz24_0
            try clear hcz24_1
            try clear hcz24_2
            try clear hcz24_3
            try clear hcz24_4
            try clear hfz11_0
            try clear hfz11_1
            try clear hfz11_2
            try clear hfz11_3
            try clear hfz11_4
            try clear hfz21_0
            try clear hfz21_1
            try clear hfz21_2
            try clear hfz21_3
            try clear hfz21_4
            try clear hfz24_0
            try clear hfz24_1
            try clear hfz24_2
            try clear hfz24_3
            try clear hfz24_4
            try clear hx213_0
            try clear p2
            try clear p21
            try clear p213
            try clear p6
            try clear q2
            try clear q21
            try clear q213
            obtain ⟨x13_2, rfl, HA, HK2, HO_9, BK204, HB⟩ := hrel
            cases gk with
            | zero => exact absurd HA.out (by simp [railplanlaw6_DynamicsTimesAscend.l0])
            | succ k2 =>
              have H := HA.out
              clear HA
              simp only [railplanlaw6_DynamicsTimesAscend.l0] at H
              by_cases c33 : x13_2 < (t207.length : Int)
              · rw [if_pos c33] at H
                have c33b0 : decide (x13_2 < (t207.length : Int)) = true := decide_eq_true c33
                clear c33
                by_cases c34 : 0 ≤ x13_2
                · rw [if_pos c34] at H
                  have c34b0 : decide (0 ≤ x13_2) = true := decide_eq_true c34
                  clear c34
                  obtain ⟨ji35, hji35⟩ : ∃ j_ : Int, (wrap64 (x13_2 - 1)) = j_ := ⟨_, rfl⟩
                  replace H : (if 0 ≤ (ji35) then (if (ji35) < (t207.length : Int) then (if (rd t207 x13_2) ≤ (rd t207 (ji35)) then (some false) else (railplanlaw6_DynamicsTimesAscend.l0 k2 t207 t211 (wrap64 (x13_2 + 1)))) else (none)) else (none)) = some r := by first | (rw [hji35] at H; exact H) | (simp only [hji35] at H ⊢; exact H)
                  have hji35w : (IntKind.i64.wrap (x13_2 - 1)) = ji35 := (i64_w _).trans hji35
                  by_cases c36 : 0 ≤ (ji35)
                  · rw [if_pos c36] at H
                    have c36b0 : decide (0 ≤ (ji35)) = true := decide_eq_true c36
                    clear c36
                    by_cases c37 : (ji35) < (t207.length : Int)
                    · rw [if_pos c37] at H
                      have c37b0 : decide ((ji35) < (t207.length : Int)) = true := decide_eq_true c37
                      clear c37
                      by_cases c38 : (rd t207 x13_2) ≤ (rd t207 (ji35))
                      · rw [if_pos c38] at H
                        have c38b0 : decide ((rd t207 x13_2) ≤ (rd t207 (ji35))) = true := decide_eq_true c38
                        clear c38
                        obtain rfl := Option.some.inj H
                        obtain ⟨Ao39, co39, eo39⟩ := Kd.R_slice HO_9.out
                        subst eo39
                        have p214 : 0 ≤ (x13_2 : Int) := of_decide_eq_true (by first | (with_reducible assumption) | assumption)
                        have q214 : x13_2 < (t207.length : Int) := of_decide_eq_true (by first | (with_reducible assumption) | assumption)
                        obtain ⟨ad214, e214, hx214_0⟩ := Kd.at_int (Kd.R_reads' HO_9.out).2.2 x13_2 p214 q214
                        cases e214
                        replace p214 := eq_true p214
                        replace q214 := eq_true q214
                        have p215 : 0 ≤ ((ji35) : Int) := of_decide_eq_true (by first | (with_reducible assumption) | assumption)
                        have q215 : (ji35) < (t207.length : Int) := of_decide_eq_true (by first | (with_reducible assumption) | assumption)
                        obtain ⟨ad215, e215, hx215_0⟩ := Kd.at_int (Kd.R_reads' HO_9.out).2.2 (ji35) p215 q215
                        obtain rfl : ad214 = ad215 := (by injection e215)
                        replace p215 := eq_true p215
                        replace q215 := eq_true q215
                        go_wp2
                        repeat (go_quiet (fail); try go_wp2)
                        go_ret
                        exact ⟨by first | rfl | (simp [errW_none, errW_some] <;> rfl) | (simp only [← hji35]; first | rfl | (simp [errW_none, errW_some] <;> rfl)) | (simp [*, errW_none, errW_some] <;> rfl), by repeat (first | (with_reducible first | exact HB.out | apply below_alloc | apply pw_below_drewN | apply below_drew1 | refine below_set ?_ GE204.out) | exact HB.out)⟩
                      · rw [if_neg c38] at H
                        have c38b0 : decide ((rd t207 x13_2) ≤ (rd t207 (ji35))) = false := decide_eq_false c38
                        clear c38
                        have H' := Aside0.mk H
                        clear H
                        obtain ⟨Ao40, co40, eo40⟩ := Kd.R_slice HO_9.out
                        subst eo40
                        have p214 : 0 ≤ (x13_2 : Int) := of_decide_eq_true (by first | (with_reducible assumption) | assumption)
                        have q214 : x13_2 < (t207.length : Int) := of_decide_eq_true (by first | (with_reducible assumption) | assumption)
                        obtain ⟨ad214, e214, hx214_0⟩ := Kd.at_int (Kd.R_reads' HO_9.out).2.2 x13_2 p214 q214
                        cases e214
                        replace p214 := eq_true p214
                        replace q214 := eq_true q214
                        have p215 : 0 ≤ ((ji35) : Int) := of_decide_eq_true (by first | (with_reducible assumption) | assumption)
                        have q215 : (ji35) < (t207.length : Int) := of_decide_eq_true (by first | (with_reducible assumption) | assumption)
                        obtain ⟨ad215, e215, hx215_0⟩ := Kd.at_int (Kd.R_reads' HO_9.out).2.2 (ji35) p215 q215
                        obtain rfl : ad214 = ad215 := (by injection e215)
                        replace p215 := eq_true p215
                        replace q215 := eq_true q215
                        go_wp2
                        repeat (go_quiet (fail); try go_wp2)
                        go_roundg k2
                        case measure => have := HJ16.out; have := HK2.out; omega
                        case rel => exact ⟨(wrap64 (x13_2 + 1)), (by first | rfl | (simp; done) | (simp [*]; done)), H', ⟨by have := HJ16.out; have := HK2.out; omega⟩, ⟨by (with_reducible repeat (first | apply Kd.R_alloc | apply Kd.R_drewN | apply Kd.R_drew)); exact HO_9.out⟩, ⟨by (with_reducible repeat (first | refine blk_drewN ?_ _ | refine blk_drew ?_ | refine blk_alloc ?_ _)); exact BK204.out⟩, ⟨by repeat (first | (with_reducible first | exact HB.out | apply below_alloc | apply pw_below_drewN | apply below_drew1 | refine below_set ?_ GE204.out) | exact HB.out)⟩⟩
                    · rw [if_neg c37] at H
                      exact absurd H (by simp)
                  · rw [if_neg c36] at H
                    exact absurd H (by simp)
                · rw [if_neg c34] at H
                  exact absurd H (by simp)
              · rw [if_neg c33] at H
                have c33b0 : decide (x13_2 < (t207.length : Int)) = false := decide_eq_false c33
                clear c33
                obtain ⟨ji41, hji41⟩ : ∃ j_ : Int, (wrap64 ((t207.length : Int) - 1)) = j_ := ⟨_, rfl⟩
                replace H : (if 0 ≤ (ji41) then (if (ji41) < (t207.length : Int) then (if (wrap64 (1000 * t211)) ≥ (rd t207 (ji41)) then (some (decide ((wrap64 (1000 * (wrap64 (t211 - 1)))) < (rd t207 (ji41))))) else (some false)) else (none)) else (none)) = some r := by first | (rw [hji41] at H; exact H) | (simp only [hji41] at H ⊢; exact H)
                have hji41w : (IntKind.i64.wrap ((t207.length : Int) - 1)) = ji41 := (i64_w _).trans hji41
                by_cases c42 : 0 ≤ (ji41)
                · rw [if_pos c42] at H
                  have c42b0 : decide (0 ≤ (ji41)) = true := decide_eq_true c42
                  clear c42
                  by_cases c43 : (ji41) < (t207.length : Int)
                  · rw [if_pos c43] at H
                    have c43b0 : decide ((ji41) < (t207.length : Int)) = true := decide_eq_true c43
                    clear c43
                    by_cases c44 : (wrap64 (1000 * t211)) ≥ (rd t207 (ji41))
                    · rw [if_pos c44] at H
                      have c44b0 : decide ((rd t207 (ji41)) ≤ (wrap64 (1000 * t211))) = true := decide_eq_true c44
                      clear c44
                      obtain rfl := Option.some.inj H
                      obtain ⟨Ao45, co45, eo45⟩ := Kd.R_slice HO_9.out
                      subst eo45
                      have p216 : 0 ≤ ((ji41) : Int) := of_decide_eq_true (by first | (with_reducible assumption) | assumption)
                      have q216 : (ji41) < (t207.length : Int) := of_decide_eq_true (by first | (with_reducible assumption) | assumption)
                      obtain ⟨ad216, e216, hx216_0⟩ := Kd.at_int (Kd.R_reads' HO_9.out).2.2 (ji41) p216 q216
                      cases e216
                      replace p216 := eq_true p216
                      replace q216 := eq_true q216
                      have p217 : 0 ≤ ((ji41) : Int) := of_decide_eq_true (by first | (with_reducible assumption) | assumption)
                      have q217 : (ji41) < (t207.length : Int) := of_decide_eq_true (by first | (with_reducible assumption) | assumption)
                      obtain ⟨ad217, e217, hx217_0⟩ := Kd.at_int (Kd.R_reads' HO_9.out).2.2 (ji41) p217 q217
                      obtain rfl : ad216 = ad217 := (by injection e217)
                      replace p217 := eq_true p217
                      replace q217 := eq_true q217
                      go_wp2
                      repeat (go_quiet (fail); try go_wp2)
                      go_ret
                      exact ⟨by first | rfl | (simp [errW_none, errW_some] <;> rfl) | (simp only [← hji41]; first | rfl | (simp [errW_none, errW_some] <;> rfl)) | (simp [*, errW_none, errW_some] <;> rfl), by repeat (first | (with_reducible first | exact HB.out | apply below_alloc | apply pw_below_drewN | apply below_drew1 | refine below_set ?_ GE204.out) | exact HB.out)⟩
                    · rw [if_neg c44] at H
                      have c44b0 : decide ((rd t207 (ji41)) ≤ (wrap64 (1000 * t211))) = false := decide_eq_false c44
                      clear c44
                      obtain rfl := Option.some.inj H
                      obtain ⟨Ao46, co46, eo46⟩ := Kd.R_slice HO_9.out
                      subst eo46
                      have p216 : 0 ≤ ((ji41) : Int) := of_decide_eq_true (by first | (with_reducible assumption) | assumption)
                      have q216 : (ji41) < (t207.length : Int) := of_decide_eq_true (by first | (with_reducible assumption) | assumption)
                      obtain ⟨ad216, e216, hx216_0⟩ := Kd.at_int (Kd.R_reads' HO_9.out).2.2 (ji41) p216 q216
                      cases e216
                      replace p216 := eq_true p216
                      replace q216 := eq_true q216
                      go_wp2
                      repeat (go_quiet (fail); try go_wp2)
                      go_ret
                      exact ⟨by first | rfl | (simp [errW_none, errW_some] <;> rfl) | (simp only [← hji41]; first | rfl | (simp [errW_none, errW_some] <;> rfl)) | (simp [*, errW_none, errW_some] <;> rfl), by repeat (first | (with_reducible first | exact HB.out | apply below_alloc | apply pw_below_drewN | apply below_drew1 | refine below_set ?_ GE204.out) | exact HB.out)⟩
                  · rw [if_neg c43] at H
                    exact absurd H (by simp)
                · rw [if_neg c42] at H
                  exact absurd H (by simp)

/-- THE ONE PURE STATEMENT of railplanlaw6_DynamicsTimesAscend: yours. -/
def railplanlaw6_DynamicsTimesAscend.Pure : Prop := ∀ (l0 : List Int) (l1 : List Int) (a2 : Int), l0.length ≤ maxLen → l0.length * 8 ≤ 140737488351232 → (∀ x ∈ l0, (Lit.int .i64 x).wf = true) → l1.length ≤ maxLen → l1.length * 8 ≤ 140737488351232 → (∀ x ∈ l1, (Lit.int .i64 x).wf = true) → (Lit.int .i64 a2).wf = true → ∃ k, railplanlaw6_DynamicsTimesAscend.f k l0 l1 a2 = some true
theorem railplanlaw6_DynamicsTimesAscend.walk (P : railplanlaw6_DynamicsTimesAscend.Pure) (a0 : Option Addr) (len0 cap0 : Nat) (z0 : List Int) (a1 : Option Addr) (len1 cap1 : Nat) (z1 : List Int) (a2 : Int) (w : World) (w0 : (a0 = none ∧ len0 = 0 ∧ cap0 = 0 ∧ z0 = []) ∨ ∃ x, a0 = some x ∧ len0 ≤ cap0 ∧ cap0 ≤ maxLen ∧ z0.length = cap0 ∧ (∀ i, i < z0.length → w.cell? (x.add i) = some (.int .i64 (z0.getD i 0))) ∧ ∀ n ∈ z0, (Lit.int .i64 n).wf = true) (y0 : len0 * 8 ≤ 140737488351232) (w1 : (a1 = none ∧ len1 = 0 ∧ cap1 = 0 ∧ z1 = []) ∨ ∃ x, a1 = some x ∧ len1 ≤ cap1 ∧ cap1 ≤ maxLen ∧ z1.length = cap1 ∧ (∀ i, i < z1.length → w.cell? (x.add i) = some (.int .i64 (z1.getD i 0))) ∧ ∀ n ∈ z1, (Lit.int .i64 n).wf = true) (y1 : len1 * 8 ≤ 140737488351232) (w2 : (Lit.int .i64 a2).wf = true) :
    Calls Try.prog 12 #[.slice a0 len0 cap0, .slice a1 len1 cap1, .int .i64 a2] w fun e w' => e = .returned (.bool true) ∧ Below w.heap.size w w' := by
  obtain ⟨l0, rfl, hr0, hm0, hw0, hc0⟩ := ReadsInt.ofRowC w0
  obtain ⟨l1, rfl, hr1, hm1, hw1, hc1⟩ := ReadsInt.ofRowC w1
  obtain ⟨k, h⟩ := P l0 l1 a2 hm0 y0 hw0 hm1 y1 hw1 w2
  refine (railplanlaw6_DynamicsTimesAscend.calls k _ _ l0 _ _ l1 a2 true w (Kd.C_of_reads (d := (0 : Int)) (h1 := fun _ => rfl) hr0) hc0 (Kd.C_of_reads (d := (0 : Int)) (h1 := fun _ => rfl) hr1) hc1 h).mono ?_
  rintro e w' ⟨rfl, hd⟩
  exact ⟨rfl, hd⟩

end Go.Proofs.Ytfnpoalffpnllaa.XDynamicsTimesAscend
