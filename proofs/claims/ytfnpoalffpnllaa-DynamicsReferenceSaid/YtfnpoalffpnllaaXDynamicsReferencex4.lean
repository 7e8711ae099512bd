-- This session's own text, written by wip/tools/xprint.py after the form of the kit's print.
import Derived.Test.YtfnpoalffpnllaaXDynamicsReferencex0
namespace Go.Proofs.Ytfnpoalffpnllaa.XDynamicsReference
open Go.RowKit Go.Proofs.YtfnpoalffpnllaaW.PrintWords Go.Proofs.YtfnpoalffpnllaaW.PrintLast Go.Proofs.YtfnpoalffpnllaaW.PrintMore
attribute [local go_sem] max2_int min2_int max_two min_two max_three min_three max_four min_four   -- for this text's walks alone
set_option linter.unusedVariables false
set_option linter.unusedSimpArgs false

/-! ### railplanref6_limit: function 37 -/
def railplanref6_limit.l0 : Nat → List (S34) → Int → Int → Int → Option (Int)
  | 0, _, _, _, _ => none
  | k + 1, x0, x1, x7, x8 => if x8 ≤ x1 then (if 0 ≤ x8 then (if x8 < (x0.length : Int) then (railplanref6_limit.l0 k x0 x1 (mn x7 ((rd_T34 x0 x8).f0)) (wrap64 (x8 + 1))) else (none)) else (none)) else (some x7)
def railplanref6_limit.f (k : Nat) (l0 : List (S34)) (a1 : Int) (a2_0 : ByteArray) (a2_1 : Int) (a2_2 : Int) (a2_3 : Int) (a2_4 : Int) : Option (Int) := railplanref6_limit.l0 k l0 a1 a2_2 (mx 0 (wrap64 (a1 - a2_1)))
theorem railplanref6_limit.mono_l : ∀ k, (∀ y0 y1 y2 y3, LeO (railplanref6_limit.l0 k y0 y1 y2 y3) (railplanref6_limit.l0 (k + 1) y0 y1 y2 y3))
  | 0 => fun _ _ _ _ r h => by simp [railplanref6_limit.l0] at h
  | k + 1 => by
    have ih0 := railplanref6_limit.mono_l k
    · intro y0 y1 y2 y3
      unfold railplanref6_limit.l0
      repeat' first
      | (with_reducible exact ih0 _ _ _ _)
      | (with_reducible exact LeO.refl _)
      | (with_reducible exact LeO.none _)
      | (with_reducible refine LeO.ite ?_ ?_)
      | (with_reducible refine LeO.bind ?_ (fun _ => ?_))
      | exact ih0 _ _ _ _
      | exact LeO.none _
      | refine LeO.ite ?_ ?_
      | refine LeO.bind ?_ (fun _ => ?_)
theorem railplanref6_limit.mono : ∀ a0 a1 a2 a3 a4 a5 a6 k, LeO (railplanref6_limit.f k a0 a1 a2 a3 a4 a5 a6) (railplanref6_limit.f (k + 1) a0 a1 a2 a3 a4 a5 a6) := by
  intro a0 a1 a2 a3 a4 a5 a6 k
  have ih0 := railplanref6_limit.mono_l k
  unfold railplanref6_limit.f
  repeat' first
      | (with_reducible exact ih0 _ _ _ _)
      | (with_reducible exact LeO.refl _)
      | (with_reducible exact LeO.none _)
      | (with_reducible refine LeO.ite ?_ ?_)
      | (with_reducible refine LeO.bind ?_ (fun _ => ?_))
      | exact ih0 _ _ _ _
      | exact LeO.none _
      | refine LeO.ite ?_ ?_
      | refine LeO.bind ?_ (fun _ => ?_)
set_option maxHeartbeats 8000000 in
set_option maxRecDepth 100000 in
theorem railplanref6_limit.calls (k : Nat) (A0 : Option Addr) (c0 : Nat) (l0 : List (S34)) (a1 : Int) (a2_0 : ByteArray) (a2_1 : Int) (a2_2 : Int) (a2_3 : Int) (a2_4 : Int) (r : Int) (w : World) (hr0 : Kd.C k34 w A0 l0.length l0) (hc0 : l0.length ≤ c0) (h : railplanref6_limit.f k l0 a1 a2_0 a2_1 a2_2 a2_3 a2_4 = some r) :
    Calls Try.prog 37 #[.slice A0 l0.length c0, .int .i64 a1, .agg #[.string a2_0, .int .i64 a2_1, .int .i64 a2_2, .int .i64 a2_3, .int .i64 a2_4]] w fun e w' => e = .returned (.int .i64 r) ∧ Below w.heap.size w w' := by
  have hu26 := Try.underlying26
  have HR0 := Aside0.mk hr0
  have HC0 := Aside0.mk hc0
  clear hr0 hc0
  have HB := Aside0.mk (Below.refl w.heap.size w)
  have H : (railplanref6_limit.l0 k l0 a1 a2_2 (mx 0 (wrap64 (a1 - a2_1)))) = some r := h
  clear h
  obtain ⟨ji4, hji4⟩ : ∃ j_ : Int, (mx 0 (wrap64 (a1 - a2_1))) = j_ := ⟨_, rfl⟩
  replace H : (railplanref6_limit.l0 k l0 a1 a2_2 ji4) = some r := by first | (rw [hji4] at H; exact H) | (simp only [hji4] at H ⊢; exact H)
  (try (have hji4l : 0 ≤ ji4 := by (rw [← hji4]; unfold mx; (repeat' split) <;> omega)))
  (try (have hji4m : 0 ≤ ji4 := by omega))
  have hji4_ : (if 0 < (wrap64 (a1 - a2_1)) then (wrap64 (a1 - a2_1)) else 0) = ji4 := hji4
  have H' := Aside0.mk H
  clear H
  go_enter Try.func37, Try.ntmps37
  go_wp2_with (first | ((with_reducible refine gate_dst (N := 5) rfl ?_); refine box_event ?hg (N := 5) ?hd (cs := #[.string a2_0, .int .i64 a2_1, .int .i64 a2_2, .int .i64 a2_3, .int .i64 a2_4]) (t := 26) ?hr ?_; (case hd => rfl); (case hg => rfl); (case hr => first | (go_simp; done) | (go_simp; rfl)); intro gb182 hg w5 hbox hb; have n0_ := Aside0.mk (below_step (by repeat (first | (with_reducible first | exact HB.out | apply below_alloc | apply pw_below_drewN | apply below_drew1) | exact HB.out)) hb); have n1_ := Aside0.mk (hbox); have n2_ := Aside0.mk ((by rw [hg]; exact (below_size (by repeat (first | (with_reducible first | exact HB.out | apply below_alloc | apply pw_below_drewN | apply below_drew1) | exact HB.out))) : w.heap.size ≤ gb182)); have n3_ := Aside0.mk ((by rw [hg]; exact (below_size (by repeat (first | (with_reducible first | exact HB.out | apply below_alloc | apply pw_below_drewN | apply below_drew1) | exact HB.out))) : w.heap.size ≤ gb182)); clear HB; have HB := n0_; have BK182 := n1_; have GW182 := n2_; have GE182 := n3_; clear n0_ n1_ n2_ n3_; clear hb hbox hg; have hcz6_0 : w5.cell? ⟨gb182, 0, none⟩ = some (.string a2_0) := (blk_cell BK182.out 0).trans rfl; have hcz6_1 : w5.cell? ⟨gb182, 1, none⟩ = some (.int .i64 a2_1) := (blk_cell BK182.out 1).trans rfl; have hcz6_2 : w5.cell? ⟨gb182, 2, none⟩ = some (.int .i64 a2_2) := (blk_cell BK182.out 2).trans rfl; have hcz6_3 : w5.cell? ⟨gb182, 3, none⟩ = some (.int .i64 a2_3) := (blk_cell BK182.out 3).trans rfl; have hcz6_4 : w5.cell? ⟨gb182, 4, none⟩ = some (.int .i64 a2_4) := (blk_cell BK182.out 4).trans rfl; have hfz6_0 := blk_frozen BK182.out 0; have hfz6_1 := blk_frozen BK182.out 1; have hfz6_2 := blk_frozen BK182.out 2; have hfz6_3 := blk_frozen BK182.out 3; have hfz6_4 := blk_frozen BK182.out 4))
  go_loopg [7, 8] k (fun kq v7 v8 w' => ∃ (x7_1 : Int) (x8_1 : Int), v7 = .int .i64 x7_1 ∧ v8 = .int .i64 x8_1 ∧ Aside0 (railplanref6_limit.l0 kq l0 a1 x7_1 x8_1 = some r) ∧ Aside0 (kq ≤ k) ∧ Aside0 (w'.heap[gb182]? = some (.cells #[.string a2_0, .int .i64 a2_1, .int .i64 a2_2, .int .i64 a2_3, .int .i64 a2_4] 26 (0, 0))) ∧ Aside0 (Below w.heap.size w w'))
  case atStart => exact ⟨(a2_2), (ji4), (by first | rfl | (simp; done) | (simp [*]; done)), (by first | rfl | (simp; done) | (simp only [← hji4] <;> (first | rfl | simp)) | (simp [*]; done)), H', ⟨Nat.le_refl _⟩, ⟨by (with_reducible repeat (first | refine blk_drewN ?_ _ | refine blk_drew ?_ | refine blk_alloc ?_ _)); exact BK182.out⟩, ⟨by repeat (first | (with_reducible first | exact HB.out | apply below_alloc | apply pw_below_drewN | apply below_drew1 | refine below_set ?_ GE182.out) | exact HB.out)⟩⟩
  case round =>
    clear H'
    try clear p2
    try clear c3
    try clear p6
    try clear hcz6_0
    try clear hcz6_1
    try clear hcz6_2
    try clear hcz6_3
    try clear hcz6_4
    try clear hfz6_0
    try clear hfz6_1
    try clear hfz6_2
    try clear hfz6_3
    try clear hfz6_4
    obtain ⟨x7_1, x8_1, rfl, rfl, HA, HK1, BK182, HB⟩ := hrel
    cases gk with
    | zero => exact absurd HA.out (by simp [railplanref6_limit.l0])
    | succ k1 =>
      have H := HA.out
      clear HA
      simp only [railplanref6_limit.l0] at H
      by_cases c7 : x8_1 ≤ a1
      · rw [if_pos c7] at H
        have c7b0 : decide (x8_1 ≤ a1) = true := decide_eq_true c7
        clear c7
        by_cases c8 : 0 ≤ x8_1
        · rw [if_pos c8] at H
          have c8b0 : decide (0 ≤ x8_1) = true := decide_eq_true c8
          clear c8
          by_cases c9 : x8_1 < (l0.length : Int)
          · rw [if_pos c9] at H
            have c9b0 : decide (x8_1 < (l0.length : Int)) = true := decide_eq_true c9
            clear c9
            obtain ⟨ji10, hji10⟩ : ∃ j_ : Int, (mn x7_1 ((rd_T34 l0 x8_1).f0)) = j_ := ⟨_, rfl⟩
            replace H : (railplanref6_limit.l0 k1 l0 a1 ji10 (wrap64 (x8_1 + 1))) = some r := by first | (rw [hji10] at H; exact H) | (simp only [hji10] at H ⊢; exact H)
            have hji10_ : (if ((rd_T34 l0 x8_1).f0) < x7_1 then ((rd_T34 l0 x8_1).f0) else x7_1) = ji10 := hji10
            have H' := Aside0.mk H
            clear H
            have p183 : 0 ≤ (x8_1 : Int) := of_decide_eq_true (by first | (with_reducible assumption) | assumption)
            have q183 : x8_1 < (l0.length : Int) := of_decide_eq_true (by first | (with_reducible assumption) | assumption)
            obtain ⟨ad183, e183, hx183_0, hx183_1⟩ := at_T34 HR0.out x8_1 p183 q183
            cases e183
            replace hx183_0 := (HB.out.cell (World.block_lt_of_cell? w _ hx183_0)).trans hx183_0
            replace hx183_1 := (HB.out.cell (World.block_lt_of_cell? w _ hx183_1)).trans hx183_1
            replace p183 := eq_true p183
            replace q183 := eq_true q183
            go_wp2
            go_roundg k1
            case measure => have := HK1.out; omega
            case rel => exact ⟨(ji10), (wrap64 (x8_1 + 1)), (by first | rfl | (simp; done) | (simp only [← hji10] <;> (first | rfl | simp)) | (simp [*]; done)), (by first | rfl | (simp; done) | (simp [*]; done)), H', ⟨by have := HK1.out; omega⟩, ⟨by (with_reducible repeat (first | refine blk_drewN ?_ _ | refine blk_drew ?_ | refine blk_alloc ?_ _)); exact BK182.out⟩, ⟨by repeat (first | (with_reducible first | exact HB.out | apply below_alloc | apply pw_below_drewN | apply below_drew1 | refine below_set ?_ GE182.out) | exact HB.out)⟩⟩
          · rw [if_neg c9] at H
            exact absurd H (by simp)
        · rw [if_neg c8] at H
          exact absurd H (by simp)
      · rw [if_neg c7] at H
        have c7b0 : decide (x8_1 ≤ a1) = false := decide_eq_false c7
        clear c7
        obtain rfl := Option.some.inj H
        go_wp2
        go_ret
        exact ⟨by first | rfl | (simp [errW_none, errW_some] <;> rfl) | (simp only [← hji4]; first | rfl | (simp [errW_none, errW_some] <;> rfl)) | (simp [*, errW_none, errW_some] <;> rfl), by repeat (first | (with_reducible first | exact HB.out | apply below_alloc | apply pw_below_drewN | apply below_drew1 | refine below_set ?_ GE182.out) | exact HB.out)⟩

/-! ### railplanref6_accel: function 38 -/
def railplanref6_accel.f (a0_0 : Int) (a0_1 : Int) (a1_0 : ByteArray) (a1_1 : Int) (a1_2 : Int) (a1_3 : Int) (a1_4 : Int) : Option (Int) := if a0_1 > 0 then (some (mx 50 (wrap64 (a1_3 - (wrap64 (10 * a0_1)))))) else (some a1_3)
set_option maxHeartbeats 8000000 in
set_option maxRecDepth 100000 in
theorem railplanref6_accel.calls (a0_0 : Int) (a0_1 : Int) (a1_0 : ByteArray) (a1_1 : Int) (a1_2 : Int) (a1_3 : Int) (a1_4 : Int) (r : Int) (w : World) (h : railplanref6_accel.f a0_0 a0_1 a1_0 a1_1 a1_2 a1_3 a1_4 = some r) :
    Calls Try.prog 38 #[.agg #[.int .i64 a0_0, .int .i64 a0_1], .agg #[.string a1_0, .int .i64 a1_1, .int .i64 a1_2, .int .i64 a1_3, .int .i64 a1_4]] w fun e w' => e = .returned (.int .i64 r) ∧ Below w.heap.size w w' := by
  have hu34 := Try.underlying34
  have hu26 := Try.underlying26
  have HB := Aside0.mk (Below.refl w.heap.size w)
  have H : (if a0_1 > 0 then (some (mx 50 (wrap64 (a1_3 - (wrap64 (10 * a0_1)))))) else (some a1_3)) = some r := h
  clear h
  by_cases c3 : a0_1 > 0
  · rw [if_pos c3] at H
    have c3b0 : decide (0 < a0_1) = true := decide_eq_true c3
    clear c3
    obtain ⟨ji4, hji4⟩ : ∃ j_ : Int, (mx 50 (wrap64 (a1_3 - (wrap64 (10 * a0_1))))) = j_ := ⟨_, rfl⟩
    replace H : (some ji4) = some r := by first | (rw [hji4] at H; exact H) | (simp only [hji4] at H ⊢; exact H)
    (try (have hji4l : 50 ≤ ji4 := by (rw [← hji4]; unfold mx; (repeat' split) <;> omega)))
    (try (have hji4m : 0 ≤ ji4 := by omega))
    have hji4_ : (if 50 < (wrap64 (a1_3 - (wrap64 (10 * a0_1)))) then (wrap64 (a1_3 - (wrap64 (10 * a0_1)))) else 50) = ji4 := hji4
    obtain rfl := Option.some.inj H
    go_enter Try.func38, Try.ntmps38
    go_wp2_with (first | ((with_reducible refine gate_dst (N := 2) rfl ?_); refine box_event ?hg (N := 2) ?hd (cs := #[.int .i64 a0_0, .int .i64 a0_1]) (t := 34) ?hr ?_; (case hd => rfl); (case hg => rfl); (case hr => first | (go_simp; done) | (go_simp; rfl)); intro gb184 hg w5 hbox hb; have n0_ := Aside0.mk (below_step (by repeat (first | (with_reducible first | exact HB.out | apply below_alloc | apply pw_below_drewN | apply below_drew1) | exact HB.out)) hb); have n1_ := Aside0.mk (hbox); have n2_ := Aside0.mk ((by rw [hg]; exact (below_size (by repeat (first | (with_reducible first | exact HB.out | apply below_alloc | apply pw_below_drewN | apply below_drew1) | exact HB.out))) : w.heap.size ≤ gb184)); have n3_ := Aside0.mk ((by rw [hg]; exact (below_size (by repeat (first | (with_reducible first | exact HB.out | apply below_alloc | apply pw_below_drewN | apply below_drew1) | exact HB.out))) : w.heap.size ≤ gb184)); clear HB; have HB := n0_; have BK184 := n1_; have GW184 := n2_; have GE184 := n3_; clear n0_ n1_ n2_ n3_; clear hb hbox hg) | ((with_reducible refine gate_dst (N := 3) rfl ?_); refine box_event ?hg (N := 3) ?hd (cs := #[.string a1_0, .int .i64 a1_1, .int .i64 a1_2, .int .i64 a1_3, .int .i64 a1_4]) (t := 26) ?hr ?_; (case hd => rfl); (case hg => rfl); (case hr => first | (go_simp; done) | (go_simp; rfl)); intro gb185 hg w6 hbox hb; have n0_ := Aside0.mk (blk_below (g := gb184) (o := .cells #[.int .i64 a0_0, .int .i64 a0_1] 34 (0, 0)) (by (with_reducible repeat (first | refine blk_drewN ?_ _ | refine blk_drew ?_ | refine blk_alloc ?_ _)); exact BK184.out) hb); have n1_ := Aside0.mk (below_step (by repeat (first | (with_reducible first | exact HB.out | apply below_alloc | apply pw_below_drewN | apply below_drew1 | refine below_set ?_ GE184.out) | exact HB.out)) hb); have n2_ := Aside0.mk (hbox); have n3_ := Aside0.mk ((by rw [hg]; exact (below_size (by repeat (first | (with_reducible first | exact HB.out | apply below_alloc | apply pw_below_drewN | apply below_drew1 | refine below_set ?_ GE184.out) | exact HB.out))) : w.heap.size ≤ gb185)); have n4_ := Aside0.mk ((by rw [hg]; exact (below_size (by repeat (first | (with_reducible first | exact HB.out | apply below_alloc | apply pw_below_drewN | apply below_drew1 | refine below_set ?_ GE184.out) | exact HB.out))) : w.heap.size ≤ gb185)); have n5_ := Aside0.mk ((by rw [hg]; exact Nat.ne_of_lt (blk_lt (g := gb184) (o := .cells #[.int .i64 a0_0, .int .i64 a0_1] 34 (0, 0)) (by (with_reducible repeat (first | refine blk_drewN ?_ _ | refine blk_drew ?_ | refine blk_alloc ?_ _)); exact BK184.out)) : gb184 ≠ gb185)); have n6_ := Aside0.mk ((by rw [hg]; exact Nat.ne_of_gt (blk_lt (g := gb184) (o := .cells #[.int .i64 a0_0, .int .i64 a0_1] 34 (0, 0)) (by (with_reducible repeat (first | refine blk_drewN ?_ _ | refine blk_drew ?_ | refine blk_alloc ?_ _)); exact BK184.out)) : gb185 ≠ gb184)); clear BK184; clear HB; have BK184 := n0_; have HB := n1_; have BK185 := n2_; have GW185 := n3_; have GE185 := n4_; have NB184_185 := n5_; have NB185_184 := n6_; clear n0_ n1_ n2_ n3_ n4_ n5_ n6_; clear hb hbox hg; have hnb7 := NB184_185.out; have hnc7 := NB185_184.out; have hcz8_0 : w6.cell? ⟨gb184, 0, none⟩ = some (.int .i64 a0_0) := (blk_cell BK184.out 0).trans rfl; have hcz8_1 : w6.cell? ⟨gb184, 1, none⟩ = some (.int .i64 a0_1) := (blk_cell BK184.out 1).trans rfl; have hfz8_0 := blk_frozen BK184.out 0; have hfz8_1 := blk_frozen BK184.out 1; have hcz9_0 : w6.cell? ⟨gb185, 0, none⟩ = some (.string a1_0) := (blk_cell BK185.out 0).trans rfl; have hcz9_1 : w6.cell? ⟨gb185, 1, none⟩ = some (.int .i64 a1_1) := (blk_cell BK185.out 1).trans rfl; have hcz9_2 : w6.cell? ⟨gb185, 2, none⟩ = some (.int .i64 a1_2) := (blk_cell BK185.out 2).trans rfl; have hcz9_3 : w6.cell? ⟨gb185, 3, none⟩ = some (.int .i64 a1_3) := (blk_cell BK185.out 3).trans rfl; have hcz9_4 : w6.cell? ⟨gb185, 4, none⟩ = some (.int .i64 a1_4) := (blk_cell BK185.out 4).trans rfl; have hfz9_0 := blk_frozen BK185.out 0; have hfz9_1 := blk_frozen BK185.out 1; have hfz9_2 := blk_frozen BK185.out 2; have hfz9_3 := blk_frozen BK185.out 3; have hfz9_4 := blk_frozen BK185.out 4))
    go_ret
    exact ⟨by first | rfl | (simp [errW_none, errW_some] <;> rfl) | (simp only [← hji4]; first | rfl | (simp [errW_none, errW_some] <;> rfl)) | (simp [*, errW_none, errW_some] <;> rfl), by repeat (first | (with_reducible first | exact HB.out | apply below_alloc | apply pw_below_drewN | apply below_drew1 | refine below_set ?_ GE184.out | refine below_set ?_ GE185.out) | exact HB.out)⟩
  · rw [if_neg c3] at H
    have c3b0 : decide (0 < a0_1) = false := decide_eq_false c3
    clear c3
    obtain rfl := Option.some.inj H
    go_enter Try.func38, Try.ntmps38
    go_wp2_with (first | ((with_reducible refine gate_dst (N := 2) rfl ?_); refine box_event ?hg (N := 2) ?hd (cs := #[.int .i64 a0_0, .int .i64 a0_1]) (t := 34) ?hr ?_; (case hd => rfl); (case hg => rfl); (case hr => first | (go_simp; done) | (go_simp; rfl)); intro gb184 hg w10 hbox hb; have n0_ := Aside0.mk (below_step (by repeat (first | (with_reducible first | exact HB.out | apply below_alloc | apply pw_below_drewN | apply below_drew1) | exact HB.out)) hb); have n1_ := Aside0.mk (hbox); have n2_ := Aside0.mk ((by rw [hg]; exact (below_size (by repeat (first | (with_reducible first | exact HB.out | apply below_alloc | apply pw_below_drewN | apply below_drew1) | exact HB.out))) : w.heap.size ≤ gb184)); have n3_ := Aside0.mk ((by rw [hg]; exact (below_size (by repeat (first | (with_reducible first | exact HB.out | apply below_alloc | apply pw_below_drewN | apply below_drew1) | exact HB.out))) : w.heap.size ≤ gb184)); clear HB; have HB := n0_; have BK184 := n1_; have GW184 := n2_; have GE184 := n3_; clear n0_ n1_ n2_ n3_; clear hb hbox hg) | ((with_reducible refine gate_dst (N := 3) rfl ?_); refine box_event ?hg (N := 3) ?hd (cs := #[.string a1_0, .int .i64 a1_1, .int .i64 a1_2, .int .i64 a1_3, .int .i64 a1_4]) (t := 26) ?hr ?_; (case hd => rfl); (case hg => rfl); (case hr => first | (go_simp; done) | (go_simp; rfl)); intro gb185 hg w11 hbox hb; have n0_ := Aside0.mk (blk_below (g := gb184) (o := .cells #[.int .i64 a0_0, .int .i64 a0_1] 34 (0, 0)) (by (with_reducible repeat (first | refine blk_drewN ?_ _ | refine blk_drew ?_ | refine blk_alloc ?_ _)); exact BK184.out) hb); have n1_ := Aside0.mk (below_step (by repeat (first | (with_reducible first | exact HB.out | apply below_alloc | apply pw_below_drewN | apply below_drew1 | refine below_set ?_ GE184.out) | exact HB.out)) hb); have n2_ := Aside0.mk (hbox); have n3_ := Aside0.mk ((by rw [hg]; exact (below_size (by repeat (first | (with_reducible first | exact HB.out | apply below_alloc | apply pw_below_drewN | apply below_drew1 | refine below_set ?_ GE184.out) | exact HB.out))) : w.heap.size ≤ gb185)); have n4_ := Aside0.mk ((by rw [hg]; exact (below_size (by repeat (first | (with_reducible first | exact HB.out | apply below_alloc | apply pw_below_drewN | apply below_drew1 | refine below_set ?_ GE184.out) | exact HB.out))) : w.heap.size ≤ gb185)); have n5_ := Aside0.mk ((by rw [hg]; exact Nat.ne_of_lt (blk_lt (g := gb184) (o := .cells #[.int .i64 a0_0, .int .i64 a0_1] 34 (0, 0)) (by (with_reducible repeat (first | refine blk_drewN ?_ _ | refine blk_drew ?_ | refine blk_alloc ?_ _)); exact BK184.out)) : gb184 ≠ gb185)); have n6_ := Aside0.mk ((by rw [hg]; exact Nat.ne_of_gt (blk_lt (g := gb184) (o := .cells #[.int .i64 a0_0, .int .i64 a0_1] 34 (0, 0)) (by (with_reducible repeat (first | refine blk_drewN ?_ _ | refine blk_drew ?_ | refine blk_alloc ?_ _)); exact BK184.out)) : gb185 ≠ gb184)); clear BK184; clear HB; have BK184 := n0_; have HB := n1_; have BK185 := n2_; have GW185 := n3_; have GE185 := n4_; have NB184_185 := n5_; have NB185_184 := n6_; clear n0_ n1_ n2_ n3_ n4_ n5_ n6_; clear hb hbox hg; have hnb12 := NB184_185.out; have hnc12 := NB185_184.out; have hcz13_0 : w11.cell? ⟨gb184, 0, none⟩ = some (.int .i64 a0_0) := (blk_cell BK184.out 0).trans rfl; have hcz13_1 : w11.cell? ⟨gb184, 1, none⟩ = some (.int .i64 a0_1) := (blk_cell BK184.out 1).trans rfl; have hfz13_0 := blk_frozen BK184.out 0; have hfz13_1 := blk_frozen BK184.out 1; have hcz14_0 : w11.cell? ⟨gb185, 0, none⟩ = some (.string a1_0) := (blk_cell BK185.out 0).trans rfl; have hcz14_1 : w11.cell? ⟨gb185, 1, none⟩ = some (.int .i64 a1_1) := (blk_cell BK185.out 1).trans rfl; have hcz14_2 : w11.cell? ⟨gb185, 2, none⟩ = some (.int .i64 a1_2) := (blk_cell BK185.out 2).trans rfl; have hcz14_3 : w11.cell? ⟨gb185, 3, none⟩ = some (.int .i64 a1_3) := (blk_cell BK185.out 3).trans rfl; have hcz14_4 : w11.cell? ⟨gb185, 4, none⟩ = some (.int .i64 a1_4) := (blk_cell BK185.out 4).trans rfl; have hfz14_0 := blk_frozen BK185.out 0; have hfz14_1 := blk_frozen BK185.out 1; have hfz14_2 := blk_frozen BK185.out 2; have hfz14_3 := blk_frozen BK185.out 3; have hfz14_4 := blk_frozen BK185.out 4))
    go_ret
    exact ⟨by first | rfl | (simp [errW_none, errW_some] <;> rfl) | (simp [*, errW_none, errW_some] <;> rfl), by repeat (first | (with_reducible first | exact HB.out | apply below_alloc | apply pw_below_drewN | apply below_drew1 | refine below_set ?_ GE184.out | refine below_set ?_ GE185.out) | exact HB.out)⟩

/-! ### railplanref6_brake: function 39 -/
def railplanref6_brake.f (a0_0 : Int) (a0_1 : Int) (a1_0 : ByteArray) (a1_1 : Int) (a1_2 : Int) (a1_3 : Int) (a1_4 : Int) : Option (Int) := if a0_1 < 0 then (some (mx 50 (wrap64 (a1_4 + (wrap64 (10 * a0_1)))))) else (some a1_4)
set_option maxHeartbeats 8000000 in
set_option maxRecDepth 100000 in
theorem railplanref6_brake.calls (a0_0 : Int) (a0_1 : Int) (a1_0 : ByteArray) (a1_1 : Int) (a1_2 : Int) (a1_3 : Int) (a1_4 : Int) (r : Int) (w : World) (h : railplanref6_brake.f a0_0 a0_1 a1_0 a1_1 a1_2 a1_3 a1_4 = some r) :
    Calls Try.prog 39 #[.agg #[.int .i64 a0_0, .int .i64 a0_1], .agg #[.string a1_0, .int .i64 a1_1, .int .i64 a1_2, .int .i64 a1_3, .int .i64 a1_4]] w fun e w' => e = .returned (.int .i64 r) ∧ Below w.heap.size w w' := by
  have hu34 := Try.underlying34
  have hu26 := Try.underlying26
  have HB := Aside0.mk (Below.refl w.heap.size w)
  have H : (if a0_1 < 0 then (some (mx 50 (wrap64 (a1_4 + (wrap64 (10 * a0_1)))))) else (some a1_4)) = some r := h
  clear h
  by_cases c3 : a0_1 < 0
  · rw [if_pos c3] at H
    have c3b0 : decide (a0_1 < 0) = true := decide_eq_true c3
    clear c3
    obtain ⟨ji4, hji4⟩ : ∃ j_ : Int, (mx 50 (wrap64 (a1_4 + (wrap64 (10 * a0_1))))) = j_ := ⟨_, rfl⟩
    replace H : (some ji4) = some r := by first | (rw [hji4] at H; exact H) | (simp only [hji4] at H ⊢; exact H)
    (try (have hji4l : 50 ≤ ji4 := by (rw [← hji4]; unfold mx; (repeat' split) <;> omega)))
    (try (have hji4m : 0 ≤ ji4 := by omega))
    have hji4_ : (if 50 < (wrap64 (a1_4 + (wrap64 (10 * a0_1)))) then (wrap64 (a1_4 + (wrap64 (10 * a0_1)))) else 50) = ji4 := hji4
    obtain rfl := Option.some.inj H
    go_enter Try.func39, Try.ntmps39
    go_wp2_with (first | ((with_reducible refine gate_dst (N := 2) rfl ?_); refine box_event ?hg (N := 2) ?hd (cs := #[.int .i64 a0_0, .int .i64 a0_1]) (t := 34) ?hr ?_; (case hd => rfl); (case hg => rfl); (case hr => first | (go_simp; done) | (go_simp; rfl)); intro gb186 hg w5 hbox hb; have n0_ := Aside0.mk (below_step (by repeat (first | (with_reducible first | exact HB.out | apply below_alloc | apply pw_below_drewN | apply below_drew1) | exact HB.out)) hb); have n1_ := Aside0.mk (hbox); have n2_ := Aside0.mk ((by rw [hg]; exact (below_size (by repeat (first | (with_reducible first | exact HB.out | apply below_alloc | apply pw_below_drewN | apply below_drew1) | exact HB.out))) : w.heap.size ≤ gb186)); have n3_ := Aside0.mk ((by rw [hg]; exact (below_size (by repeat (first | (with_reducible first | exact HB.out | apply below_alloc | apply pw_below_drewN | apply below_drew1) | exact HB.out))) : w.heap.size ≤ gb186)); clear HB; have HB := n0_; have BK186 := n1_; have GW186 := n2_; have GE186 := n3_; clear n0_ n1_ n2_ n3_; clear hb hbox hg) | ((with_reducible refine gate_dst (N := 3) rfl ?_); refine box_event ?hg (N := 3) ?hd (cs := #[.string a1_0, .int .i64 a1_1, .int .i64 a1_2, .int .i64 a1_3, .int .i64 a1_4]) (t := 26) ?hr ?_; (case hd => rfl); (case hg => rfl); (case hr => first | (go_simp; done) | (go_simp; rfl)); intro gb187 hg w6 hbox hb; have n0_ := Aside0.mk (blk_below (g := gb186) (o := .cells #[.int .i64 a0_0, .int .i64 a0_1] 34 (0, 0)) (by (with_reducible repeat (first | refine blk_drewN ?_ _ | refine blk_drew ?_ | refine blk_alloc ?_ _)); exact BK186.out) hb); have n1_ := Aside0.mk (below_step (by repeat (first | (with_reducible first | exact HB.out | apply below_alloc | apply pw_below_drewN | apply below_drew1 | refine below_set ?_ GE186.out) | exact HB.out)) hb); have n2_ := Aside0.mk (hbox); have n3_ := Aside0.mk ((by rw [hg]; exact (below_size (by repeat (first | (with_reducible first | exact HB.out | apply below_alloc | apply pw_below_drewN | apply below_drew1 | refine below_set ?_ GE186.out) | exact HB.out))) : w.heap.size ≤ gb187)); have n4_ := Aside0.mk ((by rw [hg]; exact (below_size (by repeat (first | (with_reducible first | exact HB.out | apply below_alloc | apply pw_below_drewN | apply below_drew1 | refine below_set ?_ GE186.out) | exact HB.out))) : w.heap.size ≤ gb187)); have n5_ := Aside0.mk ((by rw [hg]; exact Nat.ne_of_lt (blk_lt (g := gb186) (o := .cells #[.int .i64 a0_0, .int .i64 a0_1] 34 (0, 0)) (by (with_reducible repeat (first | refine blk_drewN ?_ _ | refine blk_drew ?_ | refine blk_alloc ?_ _)); exact BK186.out)) : gb186 ≠ gb187)); have n6_ := Aside0.mk ((by rw [hg]; exact Nat.ne_of_gt (blk_lt (g := gb186) (o := .cells #[.int .i64 a0_0, .int .i64 a0_1] 34 (0, 0)) (by (with_reducible repeat (first | refine blk_drewN ?_ _ | refine blk_drew ?_ | refine blk_alloc ?_ _)); exact BK186.out)) : gb187 ≠ gb186)); clear BK186; clear HB; have BK186 := n0_; have HB := n1_; have BK187 := n2_; have GW187 := n3_; have GE187 := n4_; have NB186_187 := n5_; have NB187_186 := n6_; clear n0_ n1_ n2_ n3_ n4_ n5_ n6_; clear hb hbox hg; have hnb7 := NB186_187.out; have hnc7 := NB187_186.out; have hcz8_0 : w6.cell? ⟨gb186, 0, none⟩ = some (.int .i64 a0_0) := (blk_cell BK186.out 0).trans rfl; have hcz8_1 : w6.cell? ⟨gb186, 1, none⟩ = some (.int .i64 a0_1) := (blk_cell BK186.out 1).trans rfl; have hfz8_0 := blk_frozen BK186.out 0; have hfz8_1 := blk_frozen BK186.out 1; have hcz9_0 : w6.cell? ⟨gb187, 0, none⟩ = some (.string a1_0) := (blk_cell BK187.out 0).trans rfl; have hcz9_1 : w6.cell? ⟨gb187, 1, none⟩ = some (.int .i64 a1_1) := (blk_cell BK187.out 1).trans rfl; have hcz9_2 : w6.cell? ⟨gb187, 2, none⟩ = some (.int .i64 a1_2) := (blk_cell BK187.out 2).trans rfl; have hcz9_3 : w6.cell? ⟨gb187, 3, none⟩ = some (.int .i64 a1_3) := (blk_cell BK187.out 3).trans rfl; have hcz9_4 : w6.cell? ⟨gb187, 4, none⟩ = some (.int .i64 a1_4) := (blk_cell BK187.out 4).trans rfl; have hfz9_0 := blk_frozen BK187.out 0; have hfz9_1 := blk_frozen BK187.out 1; have hfz9_2 := blk_frozen BK187.out 2; have hfz9_3 := blk_frozen BK187.out 3; have hfz9_4 := blk_frozen BK187.out 4))
    go_ret
    exact ⟨by first | rfl | (simp [errW_none, errW_some] <;> rfl) | (simp only [← hji4]; first | rfl | (simp [errW_none, errW_some] <;> rfl)) | (simp [*, errW_none, errW_some] <;> rfl), by repeat (first | (with_reducible first | exact HB.out | apply below_alloc | apply pw_below_drewN | apply below_drew1 | refine below_set ?_ GE186.out | refine below_set ?_ GE187.out) | exact HB.out)⟩
  · rw [if_neg c3] at H
    have c3b0 : decide (a0_1 < 0) = false := decide_eq_false c3
    clear c3
    obtain rfl := Option.some.inj H
    go_enter Try.func39, Try.ntmps39
    go_wp2_with (first | ((with_reducible refine gate_dst (N := 2) rfl ?_); refine box_event ?hg (N := 2) ?hd (cs := #[.int .i64 a0_0, .int .i64 a0_1]) (t := 34) ?hr ?_; (case hd => rfl); (case hg => rfl); (case hr => first | (go_simp; done) | (go_simp; rfl)); intro gb186 hg w10 hbox hb; have n0_ := Aside0.mk (below_step (by repeat (first | (with_reducible first | exact HB.out | apply below_alloc | apply pw_below_drewN | apply below_drew1) | exact HB.out)) hb); have n1_ := Aside0.mk (hbox); have n2_ := Aside0.mk ((by rw [hg]; exact (below_size (by repeat (first | (with_reducible first | exact HB.out | apply below_alloc | apply pw_below_drewN | apply below_drew1) | exact HB.out))) : w.heap.size ≤ gb186)); have n3_ := Aside0.mk ((by rw [hg]; exact (below_size (by repeat (first | (with_reducible first | exact HB.out | apply below_alloc | apply pw_below_drewN | apply below_drew1) | exact HB.out))) : w.heap.size ≤ gb186)); clear HB; have HB := n0_; have BK186 := n1_; have GW186 := n2_; have GE186 := n3_; clear n0_ n1_ n2_ n3_; clear hb hbox hg) | ((with_reducible refine gate_dst (N := 3) rfl ?_); refine box_event ?hg (N := 3) ?hd (cs := #[.string a1_0, .int .i64 a1_1, .int .i64 a1_2, .int .i64 a1_3, .int .i64 a1_4]) (t := 26) ?hr ?_; (case hd => rfl); (case hg => rfl); (case hr => first | (go_simp; done) | (go_simp; rfl)); intro gb187 hg w11 hbox hb; have n0_ := Aside0.mk (blk_below (g := gb186) (o := .cells #[.int .i64 a0_0, .int .i64 a0_1] 34 (0, 0)) (by (with_reducible repeat (first | refine blk_drewN ?_ _ | refine blk_drew ?_ | refine blk_alloc ?_ _)); exact BK186.out) hb); have n1_ := Aside0.mk (below_step (by repeat (first | (with_reducible first | exact HB.out | apply below_alloc | apply pw_below_drewN | apply below_drew1 | refine below_set ?_ GE186.out) | exact HB.out)) hb); have n2_ := Aside0.mk (hbox); have n3_ := Aside0.mk ((by rw [hg]; exact (below_size (by repeat (first | (with_reducible first | exact HB.out | apply below_alloc | apply pw_below_drewN | apply below_drew1 | refine below_set ?_ GE186.out) | exact HB.out))) : w.heap.size ≤ gb187)); have n4_ := Aside0.mk ((by rw [hg]; exact (below_size (by repeat (first | (with_reducible first | exact HB.out | apply below_alloc | apply pw_below_drewN | apply below_drew1 | refine below_set ?_ GE186.out) | exact HB.out))) : w.heap.size ≤ gb187)); have n5_ := Aside0.mk ((by rw [hg]; exact Nat.ne_of_lt (blk_lt (g := gb186) (o := .cells #[.int .i64 a0_0, .int .i64 a0_1] 34 (0, 0)) (by (with_reducible repeat (first | refine blk_drewN ?_ _ | refine blk_drew ?_ | refine blk_alloc ?_ _)); exact BK186.out)) : gb186 ≠ gb187)); have n6_ := Aside0.mk ((by rw [hg]; exact Nat.ne_of_gt (blk_lt (g := gb186) (o := .cells #[.int .i64 a0_0, .int .i64 a0_1] 34 (0, 0)) (by (with_reducible repeat (first | refine blk_drewN ?_ _ | refine blk_drew ?_ | refine blk_alloc ?_ _)); exact BK186.out)) : gb187 ≠ gb186)); clear BK186; clear HB; have BK186 := n0_; have HB := n1_; have BK187 := n2_; have GW187 := n3_; have GE187 := n4_; have NB186_187 := n5_; have NB187_186 := n6_; clear n0_ n1_ n2_ n3_ n4_ n5_ n6_; clear hb hbox hg; have hnb12 := NB186_187.out; have hnc12 := NB187_186.out; have hcz13_0 : w11.cell? ⟨gb186, 0, none⟩ = some (.int .i64 a0_0) := (blk_cell BK186.out 0).trans rfl; have hcz13_1 : w11.cell? ⟨gb186, 1, none⟩ = some (.int .i64 a0_1) := (blk_cell BK186.out 1).trans rfl; have hfz13_0 := blk_frozen BK186.out 0; have hfz13_1 := blk_frozen BK186.out 1; have hcz14_0 : w11.cell? ⟨gb187, 0, none⟩ = some (.string a1_0) := (blk_cell BK187.out 0).trans rfl; have hcz14_1 : w11.cell? ⟨gb187, 1, none⟩ = some (.int .i64 a1_1) := (blk_cell BK187.out 1).trans rfl; have hcz14_2 : w11.cell? ⟨gb187, 2, none⟩ = some (.int .i64 a1_2) := (blk_cell BK187.out 2).trans rfl; have hcz14_3 : w11.cell? ⟨gb187, 3, none⟩ = some (.int .i64 a1_3) := (blk_cell BK187.out 3).trans rfl; have hcz14_4 : w11.cell? ⟨gb187, 4, none⟩ = some (.int .i64 a1_4) := (blk_cell BK187.out 4).trans rfl; have hfz14_0 := blk_frozen BK187.out 0; have hfz14_1 := blk_frozen BK187.out 1; have hfz14_2 := blk_frozen BK187.out 2; have hfz14_3 := blk_frozen BK187.out 3; have hfz14_4 := blk_frozen BK187.out 4))
    go_ret
    exact ⟨by first | rfl | (simp [errW_none, errW_some] <;> rfl) | (simp [*, errW_none, errW_some] <;> rfl), by repeat (first | (with_reducible first | exact HB.out | apply below_alloc | apply pw_below_drewN | apply below_drew1 | refine below_set ?_ GE186.out | refine below_set ?_ GE187.out) | exact HB.out)⟩

/-! ### railplanref1_Sqrt: function 40 -/
def railplanref1_Sqrt.l0 : Nat → Int → Int → Int → Option (Int)
  | 0, _, _, _ => none
  | k + 1, x0, x3, x4 => if x3 < x4 then (if (wrap64 ((wrap64 (Int.tdiv (wrap64 ((wrap64 (x3 + x4)) + 1)) 2)) * (wrap64 (Int.tdiv (wrap64 ((wrap64 (x3 + x4)) + 1)) 2)))) ≤ x0 then (railplanref1_Sqrt.l0 k x0 (wrap64 (Int.tdiv (wrap64 ((wrap64 (x3 + x4)) + 1)) 2)) x4) else (railplanref1_Sqrt.l0 k x0 x3 (wrap64 ((wrap64 (Int.tdiv (wrap64 ((wrap64 (x3 + x4)) + 1)) 2)) - 1)))) else (some x3)
def railplanref1_Sqrt.f (k : Nat) (a0 : Int) : Option (Int) := if a0 ≤ 0 then (some 0) else (railplanref1_Sqrt.l0 k a0 0 3037000499)
theorem railplanref1_Sqrt.mono_l : ∀ k, (∀ y0 y1 y2, LeO (railplanref1_Sqrt.l0 k y0 y1 y2) (railplanref1_Sqrt.l0 (k + 1) y0 y1 y2))
  | 0 => fun _ _ _ r h => by simp [railplanref1_Sqrt.l0] at h
  | k + 1 => by
    have ih0 := railplanref1_Sqrt.mono_l k
    · intro y0 y1 y2
      unfold railplanref1_Sqrt.l0
      repeat' first
      | (with_reducible exact ih0 _ _ _)
      | (with_reducible exact LeO.refl _)
      | (with_reducible exact LeO.none _)
      | (with_reducible refine LeO.ite ?_ ?_)
      | (with_reducible refine LeO.bind ?_ (fun _ => ?_))
      | exact ih0 _ _ _
      | exact LeO.none _
      | refine LeO.ite ?_ ?_
      | refine LeO.bind ?_ (fun _ => ?_)
theorem railplanref1_Sqrt.mono : ∀ a0 k, LeO (railplanref1_Sqrt.f k a0) (railplanref1_Sqrt.f (k + 1) a0) := by
  intro a0 k
  have ih0 := railplanref1_Sqrt.mono_l k
  unfold railplanref1_Sqrt.f
  repeat' first
      | (with_reducible exact ih0 _ _ _)
      | (with_reducible exact LeO.refl _)
      | (with_reducible exact LeO.none _)
      | (with_reducible refine LeO.ite ?_ ?_)
      | (with_reducible refine LeO.bind ?_ (fun _ => ?_))
      | exact ih0 _ _ _
      | exact LeO.none _
      | refine LeO.ite ?_ ?_
      | refine LeO.bind ?_ (fun _ => ?_)
set_option maxHeartbeats 8000000 in
set_option maxRecDepth 100000 in
theorem railplanref1_Sqrt.calls (k : Nat) (a0 : Int) (r : Int) (w : World) (h : railplanref1_Sqrt.f k a0 = some r) :
    Calls Try.prog 40 #[.int .i64 a0] w fun e w' => e = .returned (.int .i64 r) ∧ Drawn0 w w' := by
  have H : (if a0 ≤ 0 then (some 0) else (railplanref1_Sqrt.l0 k a0 0 3037000499)) = some r := h
  clear h
  by_cases c2 : a0 ≤ 0
  · rw [if_pos c2] at H
    have c2b0 : decide (a0 ≤ 0) = true := decide_eq_true c2
    clear c2
    obtain rfl := Option.some.inj H
    go_enter Try.func40, Try.ntmps40
    go_wp2
    go_ret
    exact ⟨by first | rfl | (simp; done) | (simp [*]; done), by repeat (first | exact Drawn0.refl _ | apply Drawn0.step)⟩
  · rw [if_neg c2] at H
    have c2b0 : decide (a0 ≤ 0) = false := decide_eq_false c2
    clear c2
    have H' := Aside0.mk H
    clear H
    go_enter Try.func40, Try.ntmps40
    go_wp2
    go_loopg [3, 4] k (fun kq v3 v4 w' => ∃ (x3_1 : Int) (x4_1 : Int), v3 = .int .i64 x3_1 ∧ v4 = .int .i64 x4_1 ∧ Aside0 (railplanref1_Sqrt.l0 kq a0 x3_1 x4_1 = some r) ∧ Aside0 (kq ≤ k) ∧ Drawn0 w w')
    case atStart => exact ⟨(0), (3037000499), (by first | rfl | (simp; done) | (simp [*]; done)), (by first | rfl | (simp; done) | (simp [*]; done)), H', ⟨Nat.le_refl _⟩, by repeat (first | exact Drawn0.refl _ | apply Drawn0.step)⟩
    case round =>
      clear H'
      try clear c2
      try clear c2b0
      try clear p2
      obtain ⟨x3_1, x4_1, rfl, rfl, HA, HK1, ⟨m1, rfl⟩⟩ := hrel
      cases gk with
      | zero => exact absurd HA.out (by simp [railplanref1_Sqrt.l0])
      | succ k1 =>
        have H := HA.out
        clear HA
        simp only [railplanref1_Sqrt.l0] at H
        by_cases c3 : x3_1 < x4_1
        · rw [if_pos c3] at H
          have c3b0 : decide (x3_1 < x4_1) = true := decide_eq_true c3
          clear c3
          by_cases c4 : (wrap64 ((wrap64 (Int.tdiv (wrap64 ((wrap64 (x3_1 + x4_1)) + 1)) 2)) * (wrap64 (Int.tdiv (wrap64 ((wrap64 (x3_1 + x4_1)) + 1)) 2)))) ≤ a0
          · rw [if_pos c4] at H
            have c4b0 : decide ((wrap64 ((wrap64 (Int.tdiv (wrap64 ((wrap64 (x3_1 + x4_1)) + 1)) 2)) * (wrap64 (Int.tdiv (wrap64 ((wrap64 (x3_1 + x4_1)) + 1)) 2)))) ≤ a0) = true := decide_eq_true c4
            clear c4
            have H' := Aside0.mk H
            clear H
            go_wp2
            go_roundg k1
            case measure => have := HK1.out; omega
            case rel => exact ⟨(wrap64 (Int.tdiv (wrap64 ((wrap64 (x3_1 + x4_1)) + 1)) 2)), (x4_1), (by first | rfl | (simp; done) | (simp [*]; done)), (by first | rfl | (simp; done) | (simp [*]; done)), H', ⟨by have := HK1.out; omega⟩, by repeat (first | exact Drawn0.refl _ | apply Drawn0.step)⟩
          · rw [if_neg c4] at H
            have c4b0 : decide ((wrap64 ((wrap64 (Int.tdiv (wrap64 ((wrap64 (x3_1 + x4_1)) + 1)) 2)) * (wrap64 (Int.tdiv (wrap64 ((wrap64 (x3_1 + x4_1)) + 1)) 2)))) ≤ a0) = false := decide_eq_false c4
            clear c4
            have H' := Aside0.mk H
            clear H
            go_wp2
            go_roundg k1
            case measure => have := HK1.out; omega
            case rel => exact ⟨(x3_1), (wrap64 ((wrap64 (Int.tdiv (wrap64 ((wrap64 (x3_1 + x4_1)) + 1)) 2)) - 1)), (by first | rfl | (simp; done) | (simp [*]; done)), (by first | rfl | (simp; done) | (simp [*]; done)), H', ⟨by have := HK1.out; omega⟩, by repeat (first | exact Drawn0.refl _ | apply Drawn0.step)⟩
        · rw [if_neg c3] at H
          have c3b0 : decide (x3_1 < x4_1) = false := decide_eq_false c3
          clear c3
          obtain rfl := Option.some.inj H
          go_wp2
          go_ret
          exact ⟨by first | rfl | (simp; done) | (simp [*]; done), by repeat (first | exact Drawn0.refl _ | apply Drawn0.step)⟩

end Go.Proofs.Ytfnpoalffpnllaa.XDynamicsReference
