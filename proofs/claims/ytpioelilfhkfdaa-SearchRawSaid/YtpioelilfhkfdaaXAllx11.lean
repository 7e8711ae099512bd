-- This session's own text, written by wip/tools/xall.py after the form of the kit's print.
import Derived.Test.YtpioelilfhkfdaaXAllx0
namespace Go.Proofs.Ytpioelilfhkfdaa.XAll
open Go.RowKit Go.Proofs.YtpioelilfhkfdaaW.PrintWords Go.Proofs.YtpioelilfhkfdaaW.PrintLast Go.Proofs.YtpioelilfhkfdaaW.PrintMore
attribute [local go_sem] max2_int min2_int max_two min_two max_three min_three max_four min_four   -- for this text's walks alone
set_option linter.unusedVariables false
set_option linter.unusedSimpArgs false

/-! ### railplanref17_in: function 62 -/
def railplanref17_in.f (a0 : Int) (a1 : Int) (a2 : Int) : Option (Bool) := if a0 ≥ a1 then (some (decide (a0 ≤ a2))) else (some false)
set_option maxHeartbeats 8000000 in
set_option maxRecDepth 100000 in
theorem railplanref17_in.calls (a0 : Int) (a1 : Int) (a2 : Int) (r : Bool) (w : World) (h : railplanref17_in.f a0 a1 a2 = some r) :
  Calls Try.prog 62 #[.int .i64 a0, .int .i64 a1, .int .i64 a2] w fun e w' => e = .returned (.bool r) ∧ Drawn0 w w' := by
 have H : (if a0 ≥ a1 then (some (decide (a0 ≤ a2))) else (some false)) = some r := h
 clear h
 by_cases c4 : a0 ≥ a1
 ·rw [if_pos c4] at H
  have c4b0 : decide (a1 ≤ a0) = true := qac c4
  clear c4
  obtain rfl := Option.some.inj H
  go_enter Try.func62, Try.ntmps62
  go_wp2
  go_ret
  exact ⟨by first | rfl | (simp; done) | (simp [*]; done), by repeat (first | exact Drawn0.refl _ | apply Drawn0.step)⟩
 ·rw [if_neg c4] at H
  have c4b0 : decide (a1 ≤ a0) = false := qad c4
  clear c4
  obtain rfl := Option.some.inj H
  go_enter Try.func62, Try.ntmps62
  go_wp2
  go_ret
  exact ⟨by first | rfl | (simp; done) | (simp [*]; done), by repeat (first | exact Drawn0.refl _ | apply Drawn0.step)⟩

/-! ### railplanref11_merge: function 50 -/
def railplanref11_merge.l0 : Nat → List Int → Int → Int → Int → Int → Option (Bool × List Int)
 | 0, _, _, _, _, _ => none
 | k + 1, x0, x5, x6, x22, x23 => if x23 < x22 then (if 0 ≤ x23 then (if x23 < (x0.length : Int) then (if (rd x0 x23) = x6 then (railplanref11_merge.l0 k (x0.set (x23 : Int).toNat x5) x5 x6 x22 (wrap64 (x23 + 1))) else (railplanref11_merge.l0 k x0 x5 x6 x22 (wrap64 (x23 + 1)))) else (none)) else (none)) else (some (true, x0))
def railplanref11_merge.f (k : Nat) (l0 : List Int) (a1_0 : Int) (a1_1 : Int) (a1_2 : Int) (a1_3 : Int) (a1_4 : Int) (a1_5 : Int) : Option (Bool × List Int) := if 0 ≤ a1_1 then (if a1_1 < (l0.length : Int) then (if 0 ≤ a1_2 then (if a1_2 < (l0.length : Int) then (if (rd l0 a1_1) = (rd l0 a1_2) then (some (false, l0)) else (railplanref11_merge.l0 k l0 (rd l0 a1_1) (rd l0 a1_2) (l0.length : Int) 0)) else (none)) else (none)) else (none)) else (none)
theorem railplanref11_merge.mono_l : ∀ k, (∀ y0 y1 y2 y3 y4, LeO (railplanref11_merge.l0 k y0 y1 y2 y3 y4) (railplanref11_merge.l0 (k + 1) y0 y1 y2 y3 y4))
 | 0 => fun _ _ _ _ _ r h => by simp [railplanref11_merge.l0] at h
 | k + 1 => by
  have ih0 := railplanref11_merge.mono_l k
  ·intro y0 y1 y2 y3 y4
   unfold railplanref11_merge.l0
   repeat' first
   | (with_reducible exact ih0 _ _ _ _ _)
   | (with_reducible exact LeO.refl _)
   | (with_reducible exact LeO.none _)
   | (with_reducible refine LeO.ite ?_ ?_)
   | (with_reducible refine LeO.bind ?_ (fun _ => ?_))
   | exact ih0 _ _ _ _ _
   | exact LeO.none _
   | refine LeO.ite ?_ ?_
   | refine LeO.bind ?_ (fun _ => ?_)
theorem railplanref11_merge.mono : ∀ a0 a1 a2 a3 a4 a5 a6 k, LeO (railplanref11_merge.f k a0 a1 a2 a3 a4 a5 a6) (railplanref11_merge.f (k + 1) a0 a1 a2 a3 a4 a5 a6) := by
 intro a0 a1 a2 a3 a4 a5 a6 k
 have ih0 := railplanref11_merge.mono_l k
 unfold railplanref11_merge.f
 repeat' first
   | (with_reducible exact ih0 _ _ _ _ _)
   | (with_reducible exact LeO.refl _)
   | (with_reducible exact LeO.none _)
   | (with_reducible refine LeO.ite ?_ ?_)
   | (with_reducible refine LeO.bind ?_ (fun _ => ?_))
   | exact ih0 _ _ _ _ _
   | exact LeO.none _
   | refine LeO.ite ?_ ?_
   | refine LeO.bind ?_ (fun _ => ?_)
set_option maxHeartbeats 8000000 in
set_option maxRecDepth 100000 in
theorem railplanref11_merge.calls (k : Nat) (P0_ : Nat → Prop) (u9000_ : Value) (l0 : List Int) (a1_0 : Int) (a1_1 : Int) (a1_2 : Int) (a1_3 : Int) (a1_4 : Int) (a1_5 : Int) (r1 : Bool) (r2 : List Int) (w0 w : World) (hB : Below w0.heap.size w0 w) (ho0 : Kd.R (Kd.int .i64) 3 w w0.heap.size P0_ u9000_ l0) (h : railplanref11_merge.f k l0 a1_0 a1_1 a1_2 a1_3 a1_4 a1_5 = some (r1, r2)) :
  Calls Try.prog 50 #[u9000_, .agg #[.int .i64 a1_0, .int .i64 a1_1, .int .i64 a1_2, .int .i64 a1_3, .int .i64 a1_4, .int .i64 a1_5]] w fun e w' => e = .returned (.bool r1) ∧ Kd.R (Kd.int .i64) 3 w' w0.heap.size (fun k_ => (P0_ k_ ∨ w.heap.size ≤ k_)) u9000_ r2 ∧ Below w0.heap.size w0 w' ∧ Kept w w' (fun k_ => P0_ k_) := by
 have hu62 := Try.underlying62
 have HO0 := qo (show Kd.R (Kd.int .i64) 3 w w0.heap.size (fun k_ => (P0_ k_ ∨ w.heap.size ≤ k_)) u9000_ l0 from qy ho0 (fun k_ hk => (.inl hk)))
 have HK := qo (Kept.refl w (fun k_ => P0_ k_))
 have HW0 := qo hB.size
 have HB := qo hB
 clear hB
 have H : (if 0 ≤ a1_1 then (if a1_1 < (l0.length : Int) then (if 0 ≤ a1_2 then (if a1_2 < (l0.length : Int) then (if (rd l0 a1_1) = (rd l0 a1_2) then (some (false, l0)) else (railplanref11_merge.l0 k l0 (rd l0 a1_1) (rd l0 a1_2) (l0.length : Int) 0)) else (none)) else (none)) else (none)) else (none)) = some (r1, r2) := h
 clear h
 by_cases c3 : 0 ≤ a1_1
 ·rw [if_pos c3] at H
  have c3b0 : decide (0 ≤ a1_1) = true := qac c3
  clear c3
  by_cases c4 : a1_1 < (l0.length : Int)
  ·rw [if_pos c4] at H
   have c4b0 : decide (a1_1 < (l0.length : Int)) = true := qac c4
   clear c4
   by_cases c5 : 0 ≤ a1_2
   ·rw [if_pos c5] at H
    have c5b0 : decide (0 ≤ a1_2) = true := qac c5
    clear c5
    by_cases c6 : a1_2 < (l0.length : Int)
    ·rw [if_pos c6] at H
     have c6b0 : decide (a1_2 < (l0.length : Int)) = true := qac c6
     clear c6
     by_cases c7 : (rd l0 a1_1) = (rd l0 a1_2)
     ·rw [if_pos c7] at H
      have c7b0 : ((rd l0 a1_1) == (rd l0 a1_2)) = true := beq_iff_eq.mpr c7
      have c7b1 : ((rd l0 a1_1) != (rd l0 a1_2)) = false := bne_eq_false_iff_eq.mpr c7
      clear c7
      simp only [Option.some.injEq, Prod.mk.injEq] at H
      obtain ⟨rfl, rfl⟩ := H
      go_enter Try.func50, Try.ntmps50
      go_wp2_with (first | ((with_reducible refine gate_dst (N := 3) rfl ?_); refine box_event ?hg (N := 3) ?hd (cs := #[.int .i64 a1_0, .int .i64 a1_1, .int .i64 a1_2, .int .i64 a1_3, .int .i64 a1_4, .int .i64 a1_5]) (t := 62) ?hr ?_; (case hd => rfl); (case hg => rfl); (case hr => first | (go_simp; done) | (go_simp; rfl)); intro gb159 hg w8 hbox hb; have n0_ := qo (qae (by (with_reducible repeat (first | apply qh | apply qg | apply qi)); exact HO0.out) hb); have n1_ := qo (Kept.below (S := (fun k_ => P0_ k_)) (by repeat (first | (with_reducible first | exact HK.out | apply Kept.alloc | apply Kept.drewN | apply Kept.drew) | exact HK.out)) hb); have n2_ := qo (qt (by repeat (first | (with_reducible first | exact HB.out | apply qc | apply qb | apply qd) | exact HB.out)) hb); have n3_ := qo (hbox); have n4_ := qo ((by rw [hg]; exact (by first | exact HK.out.1 | exact (show Kept w _ (fun k_ => P0_ k_) from by repeat (first | (with_reducible first | exact HK.out | apply Kept.alloc | apply Kept.drewN | apply Kept.drew) | exact HK.out)).1) : w.heap.size ≤ gb159)); have n5_ := qo ((by rw [hg]; exact (qu (by repeat (first | (with_reducible first | exact HB.out | apply qc | apply qb | apply qd) | exact HB.out))) : w0.heap.size ≤ gb159)); clear HO0; clear HK; clear HB; have HO0 := n0_; have HK := n1_; have HB := n2_; have BK159 := n3_; have GW159 := n4_; have GE159 := n5_; clear n0_ n1_ n2_ n3_ n4_ n5_; clear hb hbox hg; have hcz9_0 : w8.cell? ⟨gb159, 0, none⟩ = some (.int .i64 a1_0) := (qe BK159.out 0).trans rfl; have hcz9_1 : w8.cell? ⟨gb159, 1, none⟩ = some (.int .i64 a1_1) := (qe BK159.out 1).trans rfl; have hcz9_2 : w8.cell? ⟨gb159, 2, none⟩ = some (.int .i64 a1_2) := (qe BK159.out 2).trans rfl; have hcz9_3 : w8.cell? ⟨gb159, 3, none⟩ = some (.int .i64 a1_3) := (qe BK159.out 3).trans rfl; have hcz9_4 : w8.cell? ⟨gb159, 4, none⟩ = some (.int .i64 a1_4) := (qe BK159.out 4).trans rfl; have hcz9_5 : w8.cell? ⟨gb159, 5, none⟩ = some (.int .i64 a1_5) := (qe BK159.out 5).trans rfl; have hfz9_0 := qf BK159.out 0; have hfz9_1 := qf BK159.out 1; have hfz9_2 := qf BK159.out 2; have hfz9_3 := qf BK159.out 3; have hfz9_4 := qf BK159.out 4; have hfz9_5 := qf BK159.out 5; obtain ⟨Ao10, co10, eo10⟩ := qak HO0.out; subst eo10; have p160 : 0 ≤ (a1_1 : Int) := qq (by first | (with_reducible assumption) | assumption); have q160 : a1_1 < (l0.length : Int) := qq (by first | (with_reducible assumption) | assumption); obtain ⟨ad160, e160, hx160_0⟩ := Kd.at_int (qr HO0.out).2.2 a1_1 p160 q160; cases e160; replace p160 := eq_true p160; replace q160 := eq_true q160; have p161 : 0 ≤ (a1_2 : Int) := qq (by first | (with_reducible assumption) | assumption); have q161 : a1_2 < (l0.length : Int) := qq (by first | (with_reducible assumption) | assumption); obtain ⟨ad161, e161, hx161_0⟩ := Kd.at_int (qr HO0.out).2.2 a1_2 p161 q161; obtain rfl : ad160 = ad161 := (by injection e161); replace p161 := eq_true p161; replace q161 := eq_true q161))
      repeat (go_quiet (first | ((with_reducible refine gate_dst (N := 3) rfl ?_); refine box_event ?hg (N := 3) ?hd (cs := #[.int .i64 a1_0, .int .i64 a1_1, .int .i64 a1_2, .int .i64 a1_3, .int .i64 a1_4, .int .i64 a1_5]) (t := 62) ?hr ?_; (case hd => rfl); (case hg => rfl); (case hr => first | (go_simp; done) | (go_simp; rfl)); intro gb159 hg w8 hbox hb; have n0_ := qo (qae (by (with_reducible repeat (first | apply qh | apply qg | apply qi)); exact HO0.out) hb); have n1_ := qo (Kept.below (S := (fun k_ => P0_ k_)) (by repeat (first | (with_reducible first | exact HK.out | apply Kept.alloc | apply Kept.drewN | apply Kept.drew) | exact HK.out)) hb); have n2_ := qo (qt (by repeat (first | (with_reducible first | exact HB.out | apply qc | apply qb | apply qd) | exact HB.out)) hb); have n3_ := qo (hbox); have n4_ := qo ((by rw [hg]; exact (by first | exact HK.out.1 | exact (show Kept w _ (fun k_ => P0_ k_) from by repeat (first | (with_reducible first | exact HK.out | apply Kept.alloc | apply Kept.drewN | apply Kept.drew) | exact HK.out)).1) : w.heap.size ≤ gb159)); have n5_ := qo ((by rw [hg]; exact (qu (by repeat (first | (with_reducible first | exact HB.out | apply qc | apply qb | apply qd) | exact HB.out))) : w0.heap.size ≤ gb159)); clear HO0; clear HK; clear HB; have HO0 := n0_; have HK := n1_; have HB := n2_; have BK159 := n3_; have GW159 := n4_; have GE159 := n5_; clear n0_ n1_ n2_ n3_ n4_ n5_; clear hb hbox hg; have hcz9_0 : w8.cell? ⟨gb159, 0, none⟩ = some (.int .i64 a1_0) := (qe BK159.out 0).trans rfl; have hcz9_1 : w8.cell? ⟨gb159, 1, none⟩ = some (.int .i64 a1_1) := (qe BK159.out 1).trans rfl; have hcz9_2 : w8.cell? ⟨gb159, 2, none⟩ = some (.int .i64 a1_2) := (qe BK159.out 2).trans rfl; have hcz9_3 : w8.cell? ⟨gb159, 3, none⟩ = some (.int .i64 a1_3) := (qe BK159.out 3).trans rfl; have hcz9_4 : w8.cell? ⟨gb159, 4, none⟩ = some (.int .i64 a1_4) := (qe BK159.out 4).trans rfl; have hcz9_5 : w8.cell? ⟨gb159, 5, none⟩ = some (.int .i64 a1_5) := (qe BK159.out 5).trans rfl; have hfz9_0 := qf BK159.out 0; have hfz9_1 := qf BK159.out 1; have hfz9_2 := qf BK159.out 2; have hfz9_3 := qf BK159.out 3; have hfz9_4 := qf BK159.out 4; have hfz9_5 := qf BK159.out 5; obtain ⟨Ao10, co10, eo10⟩ := qak HO0.out; subst eo10; have p160 : 0 ≤ (a1_1 : Int) := qq (by first | (with_reducible assumption) | assumption); have q160 : a1_1 < (l0.length : Int) := qq (by first | (with_reducible assumption) | assumption); obtain ⟨ad160, e160, hx160_0⟩ := Kd.at_int (qr HO0.out).2.2 a1_1 p160 q160; cases e160; replace p160 := eq_true p160; replace q160 := eq_true q160; have p161 : 0 ≤ (a1_2 : Int) := qq (by first | (with_reducible assumption) | assumption); have q161 : a1_2 < (l0.length : Int) := qq (by first | (with_reducible assumption) | assumption); obtain ⟨ad161, e161, hx161_0⟩ := Kd.at_int (qr HO0.out).2.2 a1_2 p161 q161; obtain rfl : ad160 = ad161 := (by injection e161); replace p161 := eq_true p161; replace q161 := eq_true q161)); try go_wp2_with (first | ((with_reducible refine gate_dst (N := 3) rfl ?_); refine box_event ?hg (N := 3) ?hd (cs := #[.int .i64 a1_0, .int .i64 a1_1, .int .i64 a1_2, .int .i64 a1_3, .int .i64 a1_4, .int .i64 a1_5]) (t := 62) ?hr ?_; (case hd => rfl); (case hg => rfl); (case hr => first | (go_simp; done) | (go_simp; rfl)); intro gb159 hg w8 hbox hb; have n0_ := qo (qae (by (with_reducible repeat (first | apply qh | apply qg | apply qi)); exact HO0.out) hb); have n1_ := qo (Kept.below (S := (fun k_ => P0_ k_)) (by repeat (first | (with_reducible first | exact HK.out | apply Kept.alloc | apply Kept.drewN | apply Kept.drew) | exact HK.out)) hb); have n2_ := qo (qt (by repeat (first | (with_reducible first | exact HB.out | apply qc | apply qb | apply qd) | exact HB.out)) hb); have n3_ := qo (hbox); have n4_ := qo ((by rw [hg]; exact (by first | exact HK.out.1 | exact (show Kept w _ (fun k_ => P0_ k_) from by repeat (first | (with_reducible first | exact HK.out | apply Kept.alloc | apply Kept.drewN | apply Kept.drew) | exact HK.out)).1) : w.heap.size ≤ gb159)); have n5_ := qo ((by rw [hg]; exact (qu (by repeat (first | (with_reducible first | exact HB.out | apply qc | apply qb | apply qd) | exact HB.out))) : w0.heap.size ≤ gb159)); clear HO0; clear HK; clear HB; have HO0 := n0_; have HK := n1_; have HB := n2_; have BK159 := n3_; have GW159 := n4_; have GE159 := n5_; clear n0_ n1_ n2_ n3_ n4_ n5_; clear hb hbox hg; have hcz9_0 : w8.cell? ⟨gb159, 0, none⟩ = some (.int .i64 a1_0) := (qe BK159.out 0).trans rfl; have hcz9_1 : w8.cell? ⟨gb159, 1, none⟩ = some (.int .i64 a1_1) := (qe BK159.out 1).trans rfl; have hcz9_2 : w8.cell? ⟨gb159, 2, none⟩ = some (.int .i64 a1_2) := (qe BK159.out 2).trans rfl; have hcz9_3 : w8.cell? ⟨gb159, 3, none⟩ = some (.int .i64 a1_3) := (qe BK159.out 3).trans rfl; have hcz9_4 : w8.cell? ⟨gb159, 4, none⟩ = some (.int .i64 a1_4) := (qe BK159.out 4).trans rfl; have hcz9_5 : w8.cell? ⟨gb159, 5, none⟩ = some (.int .i64 a1_5) := (qe BK159.out 5).trans rfl; have hfz9_0 := qf BK159.out 0; have hfz9_1 := qf BK159.out 1; have hfz9_2 := qf BK159.out 2; have hfz9_3 := qf BK159.out 3; have hfz9_4 := qf BK159.out 4; have hfz9_5 := qf BK159.out 5; obtain ⟨Ao10, co10, eo10⟩ := qak HO0.out; subst eo10; have p160 : 0 ≤ (a1_1 : Int) := qq (by first | (with_reducible assumption) | assumption); have q160 : a1_1 < (l0.length : Int) := qq (by first | (with_reducible assumption) | assumption); obtain ⟨ad160, e160, hx160_0⟩ := Kd.at_int (qr HO0.out).2.2 a1_1 p160 q160; cases e160; replace p160 := eq_true p160; replace q160 := eq_true q160; have p161 : 0 ≤ (a1_2 : Int) := qq (by first | (with_reducible assumption) | assumption); have q161 : a1_2 < (l0.length : Int) := qq (by first | (with_reducible assumption) | assumption); obtain ⟨ad161, e161, hx161_0⟩ := Kd.at_int (qr HO0.out).2.2 a1_2 p161 q161; obtain rfl : ad160 = ad161 := (by injection e161); replace p161 := eq_true p161; replace q161 := eq_true q161)))
      go_ret
      exact ⟨by first | rfl | (simp [errW_none, errW_some] <;> rfl) | (simp [*, errW_none, errW_some] <;> rfl), by (with_reducible repeat (first | apply qh | apply qg | apply qi)); exact HO0.out, by repeat (first | (with_reducible first | exact HB.out | apply qc | apply qb | apply qd | refine qn ?_ GE159.out) | exact HB.out), by repeat (first | (with_reducible first | exact HK.out | apply Kept.alloc | apply Kept.drewN | apply Kept.drew | refine Kept.setCell ?_ (.inr GW159.out) _) | exact HK.out)⟩
     ·rw [if_neg c7] at H
      have c7b0 : ((rd l0 a1_1) == (rd l0 a1_2)) = false := beq_eq_false_iff_ne.mpr c7
      have c7b1 : ((rd l0 a1_1) != (rd l0 a1_2)) = true := bne_iff_ne.mpr c7
      have H' := qo H
      clear H
      go_enter Try.func50, Try.ntmps50
      go_wp2_with (first | ((with_reducible refine gate_dst (N := 3) rfl ?_); refine box_event ?hg (N := 3) ?hd (cs := #[.int .i64 a1_0, .int .i64 a1_1, .int .i64 a1_2, .int .i64 a1_3, .int .i64 a1_4, .int .i64 a1_5]) (t := 62) ?hr ?_; (case hd => rfl); (case hg => rfl); (case hr => first | (go_simp; done) | (go_simp; rfl)); intro gb159 hg w11 hbox hb; have n0_ := qo (qae (by (with_reducible repeat (first | apply qh | apply qg | apply qi)); exact HO0.out) hb); have n1_ := qo (Kept.below (S := (fun k_ => P0_ k_)) (by repeat (first | (with_reducible first | exact HK.out | apply Kept.alloc | apply Kept.drewN | apply Kept.drew) | exact HK.out)) hb); have n2_ := qo (qt (by repeat (first | (with_reducible first | exact HB.out | apply qc | apply qb | apply qd) | exact HB.out)) hb); have n3_ := qo (hbox); have n4_ := qo ((by rw [hg]; exact (by first | exact HK.out.1 | exact (show Kept w _ (fun k_ => P0_ k_) from by repeat (first | (with_reducible first | exact HK.out | apply Kept.alloc | apply Kept.drewN | apply Kept.drew) | exact HK.out)).1) : w.heap.size ≤ gb159)); have n5_ := qo ((by rw [hg]; exact (qu (by repeat (first | (with_reducible first | exact HB.out | apply qc | apply qb | apply qd) | exact HB.out))) : w0.heap.size ≤ gb159)); clear HO0; clear HK; clear HB; have HO0 := n0_; have HK := n1_; have HB := n2_; have BK159 := n3_; have GW159 := n4_; have GE159 := n5_; clear n0_ n1_ n2_ n3_ n4_ n5_; clear hb hbox hg; have hcz12_0 : w11.cell? ⟨gb159, 0, none⟩ = some (.int .i64 a1_0) := (qe BK159.out 0).trans rfl; have hcz12_1 : w11.cell? ⟨gb159, 1, none⟩ = some (.int .i64 a1_1) := (qe BK159.out 1).trans rfl; have hcz12_2 : w11.cell? ⟨gb159, 2, none⟩ = some (.int .i64 a1_2) := (qe BK159.out 2).trans rfl; have hcz12_3 : w11.cell? ⟨gb159, 3, none⟩ = some (.int .i64 a1_3) := (qe BK159.out 3).trans rfl; have hcz12_4 : w11.cell? ⟨gb159, 4, none⟩ = some (.int .i64 a1_4) := (qe BK159.out 4).trans rfl; have hcz12_5 : w11.cell? ⟨gb159, 5, none⟩ = some (.int .i64 a1_5) := (qe BK159.out 5).trans rfl; have hfz12_0 := qf BK159.out 0; have hfz12_1 := qf BK159.out 1; have hfz12_2 := qf BK159.out 2; have hfz12_3 := qf BK159.out 3; have hfz12_4 := qf BK159.out 4; have hfz12_5 := qf BK159.out 5; obtain ⟨Ao13, co13, eo13⟩ := qak HO0.out; subst eo13; have p160 : 0 ≤ (a1_1 : Int) := qq (by first | (with_reducible assumption) | assumption); have q160 : a1_1 < (l0.length : Int) := qq (by first | (with_reducible assumption) | assumption); obtain ⟨ad160, e160, hx160_0⟩ := Kd.at_int (qr HO0.out).2.2 a1_1 p160 q160; cases e160; replace p160 := eq_true p160; replace q160 := eq_true q160; have p161 : 0 ≤ (a1_2 : Int) := qq (by first | (with_reducible assumption) | assumption); have q161 : a1_2 < (l0.length : Int) := qq (by first | (with_reducible assumption) | assumption); obtain ⟨ad161, e161, hx161_0⟩ := Kd.at_int (qr HO0.out).2.2 a1_2 p161 q161; obtain rfl : ad160 = ad161 := (by injection e161); replace p161 := eq_true p161; replace q161 := eq_true q161))
      repeat (go_quiet (first | ((with_reducible refine gate_dst (N := 3) rfl ?_); refine box_event ?hg (N := 3) ?hd (cs := #[.int .i64 a1_0, .int .i64 a1_1, .int .i64 a1_2, .int .i64 a1_3, .int .i64 a1_4, .int .i64 a1_5]) (t := 62) ?hr ?_; (case hd => rfl); (case hg => rfl); (case hr => first | (go_simp; done) | (go_simp; rfl)); intro gb159 hg w11 hbox hb; have n0_ := qo (qae (by (with_reducible repeat (first | apply qh | apply qg | apply qi)); exact HO0.out) hb); have n1_ := qo (Kept.below (S := (fun k_ => P0_ k_)) (by repeat (first | (with_reducible first | exact HK.out | apply Kept.alloc | apply Kept.drewN | apply Kept.drew) | exact HK.out)) hb); have n2_ := qo (qt (by repeat (first | (with_reducible first | exact HB.out | apply qc | apply qb | apply qd) | exact HB.out)) hb); have n3_ := qo (hbox); have n4_ := qo ((by rw [hg]; exact (by first | exact HK.out.1 | exact (show Kept w _ (fun k_ => P0_ k_) from by repeat (first | (with_reducible first | exact HK.out | apply Kept.alloc | apply Kept.drewN | apply Kept.drew) | exact HK.out)).1) : w.heap.size ≤ gb159)); have n5_ := qo ((by rw [hg]; exact (qu (by repeat (first | (with_reducible first | exact HB.out | apply qc | apply qb | apply qd) | exact HB.out))) : w0.heap.size ≤ gb159)); clear HO0; clear HK; clear HB; have HO0 := n0_; have HK := n1_; have HB := n2_; have BK159 := n3_; have GW159 := n4_; have GE159 := n5_; clear n0_ n1_ n2_ n3_ n4_ n5_; clear hb hbox hg; have hcz12_0 : w11.cell? ⟨gb159, 0, none⟩ = some (.int .i64 a1_0) := (qe BK159.out 0).trans rfl; have hcz12_1 : w11.cell? ⟨gb159, 1, none⟩ = some (.int .i64 a1_1) := (qe BK159.out 1).trans rfl; have hcz12_2 : w11.cell? ⟨gb159, 2, none⟩ = some (.int .i64 a1_2) := (qe BK159.out 2).trans rfl; have hcz12_3 : w11.cell? ⟨gb159, 3, none⟩ = some (.int .i64 a1_3) := (qe BK159.out 3).trans rfl; have hcz12_4 : w11.cell? ⟨gb159, 4, none⟩ = some (.int .i64 a1_4) := (qe BK159.out 4).trans rfl; have hcz12_5 : w11.cell? ⟨gb159, 5, none⟩ = some (.int .i64 a1_5) := (qe BK159.out 5).trans rfl; have hfz12_0 := qf BK159.out 0; have hfz12_1 := qf BK159.out 1; have hfz12_2 := qf BK159.out 2; have hfz12_3 := qf BK159.out 3; have hfz12_4 := qf BK159.out 4; have hfz12_5 := qf BK159.out 5; obtain ⟨Ao13, co13, eo13⟩ := qak HO0.out; subst eo13; have p160 : 0 ≤ (a1_1 : Int) := qq (by first | (with_reducible assumption) | assumption); have q160 : a1_1 < (l0.length : Int) := qq (by first | (with_reducible assumption) | assumption); obtain ⟨ad160, e160, hx160_0⟩ := Kd.at_int (qr HO0.out).2.2 a1_1 p160 q160; cases e160; replace p160 := eq_true p160; replace q160 := eq_true q160; have p161 : 0 ≤ (a1_2 : Int) := qq (by first | (with_reducible assumption) | assumption); have q161 : a1_2 < (l0.length : Int) := qq (by first | (with_reducible assumption) | assumption); obtain ⟨ad161, e161, hx161_0⟩ := Kd.at_int (qr HO0.out).2.2 a1_2 p161 q161; obtain rfl : ad160 = ad161 := (by injection e161); replace p161 := eq_true p161; replace q161 := eq_true q161)); try go_wp2_with (first | ((with_reducible refine gate_dst (N := 3) rfl ?_); refine box_event ?hg (N := 3) ?hd (cs := #[.int .i64 a1_0, .int .i64 a1_1, .int .i64 a1_2, .int .i64 a1_3, .int .i64 a1_4, .int .i64 a1_5]) (t := 62) ?hr ?_; (case hd => rfl); (case hg => rfl); (case hr => first | (go_simp; done) | (go_simp; rfl)); intro gb159 hg w11 hbox hb; have n0_ := qo (qae (by (with_reducible repeat (first | apply qh | apply qg | apply qi)); exact HO0.out) hb); have n1_ := qo (Kept.below (S := (fun k_ => P0_ k_)) (by repeat (first | (with_reducible first | exact HK.out | apply Kept.alloc | apply Kept.drewN | apply Kept.drew) | exact HK.out)) hb); have n2_ := qo (qt (by repeat (first | (with_reducible first | exact HB.out | apply qc | apply qb | apply qd) | exact HB.out)) hb); have n3_ := qo (hbox); have n4_ := qo ((by rw [hg]; exact (by first | exact HK.out.1 | exact (show Kept w _ (fun k_ => P0_ k_) from by repeat (first | (with_reducible first | exact HK.out | apply Kept.alloc | apply Kept.drewN | apply Kept.drew) | exact HK.out)).1) : w.heap.size ≤ gb159)); have n5_ := qo ((by rw [hg]; exact (qu (by repeat (first | (with_reducible first | exact HB.out | apply qc | apply qb | apply qd) | exact HB.out))) : w0.heap.size ≤ gb159)); clear HO0; clear HK; clear HB; have HO0 := n0_; have HK := n1_; have HB := n2_; have BK159 := n3_; have GW159 := n4_; have GE159 := n5_; clear n0_ n1_ n2_ n3_ n4_ n5_; clear hb hbox hg; have hcz12_0 : w11.cell? ⟨gb159, 0, none⟩ = some (.int .i64 a1_0) := (qe BK159.out 0).trans rfl; have hcz12_1 : w11.cell? ⟨gb159, 1, none⟩ = some (.int .i64 a1_1) := (qe BK159.out 1).trans rfl; have hcz12_2 : w11.cell? ⟨gb159, 2, none⟩ = some (.int .i64 a1_2) := (qe BK159.out 2).trans rfl; have hcz12_3 : w11.cell? ⟨gb159, 3, none⟩ = some (.int .i64 a1_3) := (qe BK159.out 3).trans rfl; have hcz12_4 : w11.cell? ⟨gb159, 4, none⟩ = some (.int .i64 a1_4) := (qe BK159.out 4).trans rfl; have hcz12_5 : w11.cell? ⟨gb159, 5, none⟩ = some (.int .i64 a1_5) := (qe BK159.out 5).trans rfl; have hfz12_0 := qf BK159.out 0; have hfz12_1 := qf BK159.out 1; have hfz12_2 := qf BK159.out 2; have hfz12_3 := qf BK159.out 3; have hfz12_4 := qf BK159.out 4; have hfz12_5 := qf BK159.out 5; obtain ⟨Ao13, co13, eo13⟩ := qak HO0.out; subst eo13; have p160 : 0 ≤ (a1_1 : Int) := qq (by first | (with_reducible assumption) | assumption); have q160 : a1_1 < (l0.length : Int) := qq (by first | (with_reducible assumption) | assumption); obtain ⟨ad160, e160, hx160_0⟩ := Kd.at_int (qr HO0.out).2.2 a1_1 p160 q160; cases e160; replace p160 := eq_true p160; replace q160 := eq_true q160; have p161 : 0 ≤ (a1_2 : Int) := qq (by first | (with_reducible assumption) | assumption); have q161 : a1_2 < (l0.length : Int) := qq (by first | (with_reducible assumption) | assumption); obtain ⟨ad161, e161, hx161_0⟩ := Kd.at_int (qr HO0.out).2.2 a1_2 p161 q161; obtain rfl : ad160 = ad161 := (by injection e161); replace p161 := eq_true p161; replace q161 := eq_true q161)))
      obtain ⟨gz_, hgz_⟩ := Kd.R_head HO0.out; subst hgz_; (simp only [add_plain])
      go_loopg [23] k (fun kq v23 w' => ∃ (x0_1 : List Int) (x23_1 : Int), v23 = .int .i64 x23_1 ∧ Aside0 (railplanref11_merge.l0 kq x0_1 (rd l0 a1_1) (rd l0 a1_2) (l0.length : Int) x23_1 = some (r1, r2)) ∧ Aside0 (kq ≤ k) ∧ Aside0 (Kd.R (Kd.int .i64) 3 w' w0.heap.size (fun k_ => (P0_ k_ ∨ w.heap.size ≤ k_)) (.slice (some ⟨gz_, 0, none⟩) l0.length co13) x0_1) ∧ Aside0 (w'.heap[gb159]? = some (.cells #[.int .i64 a1_0, .int .i64 a1_1, .int .i64 a1_2, .int .i64 a1_3, .int .i64 a1_4, .int .i64 a1_5] 62 (0, 0))) ∧ Aside0 (Kept w w' (fun k_ => P0_ k_)) ∧ Aside0 (Below w0.heap.size w0 w'))
      case atStart => exact ⟨(l0), (0), (by first | rfl | (simp; done) | (simp [*]; done)), H', ⟨Nat.le_refl _⟩, ⟨by (with_reducible repeat (first | apply qh | apply qg | apply qi)); exact HO0.out⟩, ⟨by (with_reducible repeat (first | refine ql ?_ _ | refine qm ?_ | refine qk ?_ _)); exact BK159.out⟩, ⟨by repeat (first | (with_reducible first | exact HK.out | apply Kept.alloc | apply Kept.drewN | apply Kept.drew | refine Kept.setCell ?_ (.inr GW159.out) _) | exact HK.out)⟩, ⟨by repeat (first | (with_reducible first | exact HB.out | apply qc | apply qb | apply qd | refine qn ?_ GE159.out) | exact HB.out)⟩⟩
      case round =>
       clear H'
       try clear p1
       try clear q1
       try clear hx1
       try clear p2
       try clear c3
       try clear c3b0
       try clear c4
       try clear c4b0
       try clear c5
       try clear c5b0
       try clear c6
       try clear c6b0
       try clear c7
       try clear c7b0
       try clear c7b1
       try clear hcz12_0
       try clear hcz12_1
       try clear hcz12_2
       try clear hcz12_3
       try clear hcz12_4
       try clear hcz12_5
       try clear hcz9_0
       try clear hcz9_1
       try clear hcz9_2
       try clear hcz9_3
       try clear hcz9_4
       try clear hcz9_5
       try clear hfz12_0
       try clear hfz12_1
       try clear hfz12_2
       try clear hfz12_3
       try clear hfz12_4
       try clear hfz12_5
       try clear hfz9_0
       try clear hfz9_1
       try clear hfz9_2
       try clear hfz9_3
       try clear hfz9_4
       try clear hfz9_5
       try clear hx160_0
       try clear hx161_0
       try clear p160
       try clear p161
       try clear q160
       try clear q161
       obtain ⟨x0_1, x23_1, rfl, HA, HK1, HO_0, BK159, HK, HB⟩ := hrel
       have hl0_1 := (qr HO_0.out).1
       rw [hl0_1] at HO_0
       (try simp only [hl0_1])
       (try simp only [hl0_1] at BK159)
       cases gk with
       | zero => exact absurd HA.out (by simp [railplanref11_merge.l0])
       | succ k1 =>
        have H := HA.out
        clear HA
        simp only [railplanref11_merge.l0] at H
        by_cases c14 : x23_1 < (l0.length : Int)
        ·rw [if_pos c14] at H
         have c14b0 : decide (x23_1 < (l0.length : Int)) = true := qac c14
         (try (have c14b9_0 := c14b0; simp only [hl0_1] at c14b9_0))
         clear c14
         by_cases c15 : 0 ≤ x23_1
         ·rw [if_pos c15] at H
          have c15b0 : decide (0 ≤ x23_1) = true := qac c15
          clear c15
          by_cases c16 : x23_1 < (x0_1.length : Int)
          ·rw [if_pos c16] at H
           have c16b0 : decide (x23_1 < (x0_1.length : Int)) = true := qac c16
           (try (have c16b9_0 := c16b0; simp only [hl0_1] at c16b9_0))
           clear c16
           by_cases c17 : (rd x0_1 x23_1) = (rd l0 a1_2)
           ·rw [if_pos c17] at H
            have c17b0 : ((rd x0_1 x23_1) == (rd l0 a1_2)) = true := beq_iff_eq.mpr c17
            have c17b1 : ((rd x0_1 x23_1) != (rd l0 a1_2)) = false := bne_eq_false_iff_eq.mpr c17
            clear c17
            obtain ⟨y163, hy163⟩ : ∃ y_ : List Int, y_ = (x0_1.set (x23_1 : Int).toNat (rd l0 a1_1)) := ⟨_, rfl⟩
            replace H : (railplanref11_merge.l0 k1 y163 (rd l0 a1_1) (rd l0 a1_2) (l0.length : Int) (wrap64 (x23_1 + 1))) = some (r1, r2) := by first | (rw [hy163]; with_reducible exact H) | (have H2_ := (Option.bind_some _ _).symm.trans H; rw [hy163]; with_reducible exact H2_) | (have H2_ := (Option.bind_some _ _).symm.trans H; with_reducible exact H2_) | with_reducible exact H | (rw [hy163]; exact H) | exact H
            have Ny163 := qo hy163
            clear hy163
            have H' := qo H
            clear H
            have p162 : 0 ≤ (x23_1 : Int) := qq (by first | (with_reducible assumption) | assumption)
            have q162 : x23_1 < (x0_1.length : Int) := qq (by first | (with_reducible assumption) | assumption)
            obtain ⟨ad162, e162, hx162_0⟩ := Kd.at_int (qr HO_0.out).2.2 x23_1 p162 q162
            obtain rfl := (show (⟨gz_, 0, none⟩ : Addr) = ad162 from (by injection e162)); (first | simp only [add_plain] at hx162_0 | skip)
            replace p162 := eq_true p162
            replace q162 := eq_true q162
            have p18 : 0 ≤ (x23_1 : Int) := qq (by first | (with_reducible assumption) | assumption)
            have q18 : (x23_1 : Int) < ((x0_1.length : Int) : Int) := qq (by first | (with_reducible assumption) | assumption)
            obtain ⟨go18, co18, eo18, gb18, gl18, cl18, HG18⟩ := Kd.R_form HO_0.out (by first | omega | (have e_ := (qr HO_0.out).1; omega))
            (first | cases eo18 | (injection eo18 with ea_ en_ ec_; (first | subst ea_ | (injection ea_ with ea_; subst ea_)); subst ec_; clear en_))
            have GB18 := qo gb18
            have GG18 := qo HG18
            clear gb18 gl18 HG18
            have HMgo18 := qo (show (P0_ gz_ ∨ w.heap.size ≤ gz_) from (HO_0.out.1 _ rfl))
            (first | simp only [add_plain] at hx160_0 | skip)
            (first | simp only [add_plain] at hx161_0 | skip)
            (first | simp only [add_plain] at hx162_0 | skip)
            obtain ⟨hx18_0, hf18_0⟩ := Kd.R_celln 0 HO_0.out (x23_1 : Int) p18 q18
            replace p18 := eq_true p18
            replace q18 := eq_true q18
            have HP19 := Kd.R_putg HO_0.out (x23_1 : Int) (rd l0 a1_1)
            go_wp2_with (first | ((with_reducible refine gate_store (t := 3) (p := 35) rfl ?_); (try (rw [drewN_self wr]; generalize hq_ : World.drewN wr _ = wr; have n0_ := qo (qan hq_ HO_0.out); have n1_ := qo (qai hq_ BK159.out); have n2_ := qo (kept_at hq_ HK.out); have n3_ := qo (qah hq_ HB.out); clear hq_ HO_0 BK159 HK HB; have HO_0 := n0_; have BK159 := n1_; have HK := n2_; have HB := n3_; clear n0_ n1_ n2_ n3_; (try (obtain ⟨hxq_, hfq_⟩ := Kd.R_celln 0 HO_0.out (x23_1 : Int) (of_eq_true p18) (of_eq_true q18))); (try (have HP19 := Kd.R_putg HO_0.out (x23_1 : Int) (rd l0 a1_1))))); refine store_event (t := 3) (p := 35) (v := ?vo_w20) (w1 := (wr.setCell ⟨gz_, (x23_1 : Int).toNat, none⟩ (.int .i64 (rd l0 a1_1)))) ?hg ?ho ?hn ?hr ?_; (case ho => rfl); (case hg => rfl); (case hn => rfl); (case hr => first | (go_simp; done) | (go_simp; rfl)); intro w20 hw; have hg : wr.grownBy w20 (some gz_) := (by rw [hw]; exact HP19.2); have hp_ : Kd.R (Kd.int .i64) 3 w20 w0.heap.size (fun k_ => (P0_ k_ ∨ w.heap.size ≤ k_)) (.slice (some ⟨gz_, 0, none⟩) x0_1.length co13) y163 := (by rw [hw, Ny163.out]; exact HP19.1); clear HP19; have n0_ := qo (hp_); have n1_ := qo (blk_grown (g := gb159) (o := .cells #[.int .i64 a1_0, .int .i64 a1_1, .int .i64 a1_2, .int .i64 a1_3, .int .i64 a1_4, .int .i64 a1_5] 62 (0, 0)) (by (with_reducible repeat (first | refine ql ?_ _ | refine qm ?_ | refine qk ?_ _)); exact BK159.out) hg (Kd.R_ne HO_0.out BK159.out (by decide))); have n2_ := qo ((by rw [hw]; exact qn (HB.out) GB18.out : Below w0.heap.size w0 w20)); have n3_ := qo (Kept.of_grown (S := (fun k_ => P0_ k_)) hg (by repeat (first | (with_reducible first | exact HK.out | apply Kept.alloc | apply Kept.drewN | apply Kept.drew | refine Kept.setCell ?_ (.inr GW159.out) _) | exact HK.out)) (fun k_ e_ => (HO_0.out.1 k_ e_))); clear HO_0; clear BK159; clear HB; clear HK; have HO_0 := n0_; have BK159 := n1_; have HB := n2_; have HK := n3_; clear n0_ n1_ n2_ n3_; clear hg hw hp_))
            repeat (go_quiet (first | ((with_reducible refine gate_store (t := 3) (p := 35) rfl ?_); (try (rw [drewN_self wr]; generalize hq_ : World.drewN wr _ = wr; have n0_ := qo (qan hq_ HO_0.out); have n1_ := qo (qai hq_ BK159.out); have n2_ := qo (kept_at hq_ HK.out); have n3_ := qo (qah hq_ HB.out); clear hq_ HO_0 BK159 HK HB; have HO_0 := n0_; have BK159 := n1_; have HK := n2_; have HB := n3_; clear n0_ n1_ n2_ n3_; (try (obtain ⟨hxq_, hfq_⟩ := Kd.R_celln 0 HO_0.out (x23_1 : Int) (of_eq_true p18) (of_eq_true q18))); (try (have HP19 := Kd.R_putg HO_0.out (x23_1 : Int) (rd l0 a1_1))))); refine store_event (t := 3) (p := 35) (v := ?vo_w20) (w1 := (wr.setCell ⟨gz_, (x23_1 : Int).toNat, none⟩ (.int .i64 (rd l0 a1_1)))) ?hg ?ho ?hn ?hr ?_; (case ho => rfl); (case hg => rfl); (case hn => rfl); (case hr => first | (go_simp; done) | (go_simp; rfl)); intro w20 hw; have hg : wr.grownBy w20 (some gz_) := (by rw [hw]; exact HP19.2); have hp_ : Kd.R (Kd.int .i64) 3 w20 w0.heap.size (fun k_ => (P0_ k_ ∨ w.heap.size ≤ k_)) (.slice (some ⟨gz_, 0, none⟩) x0_1.length co13) y163 := (by rw [hw, Ny163.out]; exact HP19.1); clear HP19; have n0_ := qo (hp_); have n1_ := qo (blk_grown (g := gb159) (o := .cells #[.int .i64 a1_0, .int .i64 a1_1, .int .i64 a1_2, .int .i64 a1_3, .int .i64 a1_4, .int .i64 a1_5] 62 (0, 0)) (by (with_reducible repeat (first | refine ql ?_ _ | refine qm ?_ | refine qk ?_ _)); exact BK159.out) hg (Kd.R_ne HO_0.out BK159.out (by decide))); have n2_ := qo ((by rw [hw]; exact qn (HB.out) GB18.out : Below w0.heap.size w0 w20)); have n3_ := qo (Kept.of_grown (S := (fun k_ => P0_ k_)) hg (by repeat (first | (with_reducible first | exact HK.out | apply Kept.alloc | apply Kept.drewN | apply Kept.drew | refine Kept.setCell ?_ (.inr GW159.out) _) | exact HK.out)) (fun k_ e_ => (HO_0.out.1 k_ e_))); clear HO_0; clear BK159; clear HB; clear HK; have HO_0 := n0_; have BK159 := n1_; have HB := n2_; have HK := n3_; clear n0_ n1_ n2_ n3_; clear hg hw hp_)); try go_wp2_with (first | ((with_reducible refine gate_store (t := 3) (p := 35) rfl ?_); (try (rw [drewN_self wr]; generalize hq_ : World.drewN wr _ = wr; have n0_ := qo (qan hq_ HO_0.out); have n1_ := qo (qai hq_ BK159.out); have n2_ := qo (kept_at hq_ HK.out); have n3_ := qo (qah hq_ HB.out); clear hq_ HO_0 BK159 HK HB; have HO_0 := n0_; have BK159 := n1_; have HK := n2_; have HB := n3_; clear n0_ n1_ n2_ n3_; (try (obtain ⟨hxq_, hfq_⟩ := Kd.R_celln 0 HO_0.out (x23_1 : Int) (of_eq_true p18) (of_eq_true q18))); (try (have HP19 := Kd.R_putg HO_0.out (x23_1 : Int) (rd l0 a1_1))))); refine store_event (t := 3) (p := 35) (v := ?vo_w20) (w1 := (wr.setCell ⟨gz_, (x23_1 : Int).toNat, none⟩ (.int .i64 (rd l0 a1_1)))) ?hg ?ho ?hn ?hr ?_; (case ho => rfl); (case hg => rfl); (case hn => rfl); (case hr => first | (go_simp; done) | (go_simp; rfl)); intro w20 hw; have hg : wr.grownBy w20 (some gz_) := (by rw [hw]; exact HP19.2); have hp_ : Kd.R (Kd.int .i64) 3 w20 w0.heap.size (fun k_ => (P0_ k_ ∨ w.heap.size ≤ k_)) (.slice (some ⟨gz_, 0, none⟩) x0_1.length co13) y163 := (by rw [hw, Ny163.out]; exact HP19.1); clear HP19; have n0_ := qo (hp_); have n1_ := qo (blk_grown (g := gb159) (o := .cells #[.int .i64 a1_0, .int .i64 a1_1, .int .i64 a1_2, .int .i64 a1_3, .int .i64 a1_4, .int .i64 a1_5] 62 (0, 0)) (by (with_reducible repeat (first | refine ql ?_ _ | refine qm ?_ | refine qk ?_ _)); exact BK159.out) hg (Kd.R_ne HO_0.out BK159.out (by decide))); have n2_ := qo ((by rw [hw]; exact qn (HB.out) GB18.out : Below w0.heap.size w0 w20)); have n3_ := qo (Kept.of_grown (S := (fun k_ => P0_ k_)) hg (by repeat (first | (with_reducible first | exact HK.out | apply Kept.alloc | apply Kept.drewN | apply Kept.drew | refine Kept.setCell ?_ (.inr GW159.out) _) | exact HK.out)) (fun k_ e_ => (HO_0.out.1 k_ e_))); clear HO_0; clear BK159; clear HB; clear HK; have HO_0 := n0_; have BK159 := n1_; have HB := n2_; have HK := n3_; clear n0_ n1_ n2_ n3_; clear hg hw hp_)))
            (try simp only [← hl0_1])
            go_roundg k1
            case measure => have := HK1.out; omega
            case rel => exact ⟨(y163), (wrap64 (x23_1 + 1)), (by first | rfl | (simp; done) | (simp [*]; done)), H', ⟨by have := HK1.out; omega⟩, ⟨by (try simp only [hl0_1]); (with_reducible repeat (first | apply qh | apply qg | apply qi)); exact HO_0.out⟩, ⟨by (try simp only [hl0_1]); (with_reducible repeat (first | refine ql ?_ _ | refine qm ?_ | refine qk ?_ _)); exact BK159.out⟩, ⟨by repeat (first | (with_reducible first | exact HK.out | apply Kept.alloc | apply Kept.drewN | apply Kept.drew | refine Kept.setCell ?_ (.inr GW159.out) _) | exact HK.out)⟩, ⟨by repeat (first | (with_reducible first | exact HB.out | apply qc | apply qb | apply qd | refine qn ?_ GE159.out) | exact HB.out)⟩⟩
           ·rw [if_neg c17] at H
            have c17b0 : ((rd x0_1 x23_1) == (rd l0 a1_2)) = false := beq_eq_false_iff_ne.mpr c17
            have c17b1 : ((rd x0_1 x23_1) != (rd l0 a1_2)) = true := bne_iff_ne.mpr c17
            have H' := qo H
            clear H
            have p162 : 0 ≤ (x23_1 : Int) := qq (by first | (with_reducible assumption) | assumption)
            have q162 : x23_1 < (x0_1.length : Int) := qq (by first | (with_reducible assumption) | assumption)
            obtain ⟨ad162, e162, hx162_0⟩ := Kd.at_int (qr HO_0.out).2.2 x23_1 p162 q162
            obtain rfl := (show (⟨gz_, 0, none⟩ : Addr) = ad162 from (by injection e162)); (first | simp only [add_plain] at hx162_0 | skip)
            replace p162 := eq_true p162
            replace q162 := eq_true q162
            go_wp2
            repeat (go_quiet (fail); try go_wp2)
            (try simp only [← hl0_1])
            go_roundg k1
            case measure => have := HK1.out; omega
            case rel => exact ⟨(x0_1), (wrap64 (x23_1 + 1)), (by first | rfl | (simp; done) | (simp [*]; done)), H', ⟨by have := HK1.out; omega⟩, ⟨by (try simp only [hl0_1]); (with_reducible repeat (first | apply qh | apply qg | apply qi)); exact HO_0.out⟩, ⟨by (try simp only [hl0_1]); (with_reducible repeat (first | refine ql ?_ _ | refine qm ?_ | refine qk ?_ _)); exact BK159.out⟩, ⟨by repeat (first | (with_reducible first | exact HK.out | apply Kept.alloc | apply Kept.drewN | apply Kept.drew | refine Kept.setCell ?_ (.inr GW159.out) _) | exact HK.out)⟩, ⟨by repeat (first | (with_reducible first | exact HB.out | apply qc | apply qb | apply qd | refine qn ?_ GE159.out) | exact HB.out)⟩⟩
          ·rw [if_neg c16] at H
           exact absurd H (by simp)
         ·rw [if_neg c15] at H
          exact absurd H (by simp)
        ·rw [if_neg c14] at H
         have c14b0 : decide (x23_1 < (l0.length : Int)) = false := qad c14
         (try (have c14b9_0 := c14b0; simp only [hl0_1] at c14b9_0))
         clear c14
         simp only [Option.some.injEq, Prod.mk.injEq] at H
         obtain ⟨rfl, rfl⟩ := H
         go_wp2
         repeat (go_quiet (fail); try go_wp2)
         go_ret
         exact ⟨by first | rfl | (simp [errW_none, errW_some] <;> rfl) | (simp [*, errW_none, errW_some] <;> rfl), (by first | exact (by (with_reducible repeat (first | apply qh | apply qg | apply qi)); exact HO_0.out) | (simp only [hl0_1]; exact (by (with_reducible repeat (first | apply qh | apply qg | apply qi)); exact HO_0.out))), by repeat (first | (with_reducible first | exact HB.out | apply qc | apply qb | apply qd | refine qn ?_ GE159.out) | exact HB.out), by repeat (first | (with_reducible first | exact HK.out | apply Kept.alloc | apply Kept.drewN | apply Kept.drew | refine Kept.setCell ?_ (.inr GW159.out) _) | exact HK.out)⟩
    ·rw [if_neg c6] at H
     exact absurd H (by simp)
   ·rw [if_neg c5] at H
    exact absurd H (by simp)
  ·rw [if_neg c4] at H
   exact absurd H (by simp)
 ·rw [if_neg c3] at H
  exact absurd H (by simp)

end Go.Proofs.Ytpioelilfhkfdaa.XAll
