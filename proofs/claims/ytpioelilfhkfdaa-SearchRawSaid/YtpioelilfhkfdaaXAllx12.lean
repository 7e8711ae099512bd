-- This session's own text, written by wip/tools/xall.py after the form of the kit's print.
import Derived.Test.YtpioelilfhkfdaaXAllx0
import Derived.Test.YtpioelilfhkfdaaXAllx10
import Derived.Test.YtpioelilfhkfdaaXAllx11
namespace Go.Proofs.Ytpioelilfhkfdaa.XAll
open Go.RowKit Go.Proofs.YtpioelilfhkfdaaW.PrintWords Go.Proofs.YtpioelilfhkfdaaW.PrintLast Go.Proofs.YtpioelilfhkfdaaW.PrintMore
attribute [local go_sem] max2_int min2_int max_two min_two max_three min_three max_four min_four   -- for this text's walks alone
set_option linter.unusedVariables false
set_option linter.unusedSimpArgs false

/-! ### railplanref11_Components: function 45 -/
mutual
def railplanref11_Components.l0 : Nat → List Int → Int → Int → Int → List (S60) → List (S62) → Option (List Int)
 | 0, _, _, _, _, _, _ => none
 | k + 1, x3, x18, x19, x165000, x165001, x165002 => if x19 < x18 then (if 0 ≤ x19 then (if x19 < (x3.length : Int) then (railplanref11_Components.l0 k (x3.set (x19 : Int).toNat x19) x18 (wrap64 (x19 + 1)) x165000 x165001 x165002) else (none)) else (none)) else (railplanref11_Components.l1 k x3 0 x165000 x165001 x165002)
def railplanref11_Components.l1 : Nat → List Int → Int → Int → List (S60) → List (S62) → Option (List Int)
 | 0, _, _, _, _, _ => none
 | k + 1, x3, x5, x165000, x165001, x165002 => if x5 < (x165002.length : Int) then (if 0 ≤ x5 then ((railplanref11_merge.f k x3 ((rd_T62 x165002 x5).f0) ((rd_T62 x165002 x5).f1) ((rd_T62 x165002 x5).f2) ((rd_T62 x165002 x5).f3) ((rd_T62 x165002 x5).f4) ((rd_T62 x165002 x5).f5)).bind fun bt171 => (railplanref11_Components.l1 k bt171.2 (wrap64 (x5 + 1)) x165000 x165001 x165002)) else (none)) else (if 0 ≤ (x3.length : Int) then (if ((x3.length : Int) : Int).toNat ≤ 35184372088832 then (railplanref11_Components.l2 k x3 (List.replicate ((x3.length : Int) : Int).toNat 0) 0 (x3.length : Int) 0) else (none)) else (none))
def railplanref11_Components.l2 : Nat → List Int → List Int → Int → Int → Int → Option (List Int)
 | 0, _, _, _, _, _ => none
 | k + 1, x3, x6, x7, x45, x46 => if x46 < x45 then (if 0 ≤ x46 then (if x46 < (x6.length : Int) then (railplanref11_Components.l3 k x3 (x6.set (x46 : Int).toNat (-1)) x7 x46 0 x45 x46) else (none)) else (none)) else (some x6)
def railplanref11_Components.l3 : Nat → List Int → List Int → Int → Int → Int → Int → Int → Option (List Int)
 | 0, _, _, _, _, _, _, _ => none
 | k + 1, x3, x6, x7, x8, x9, x45, x46 => if x9 < x8 then (if 0 ≤ x9 then (if x9 < (x3.length : Int) then (if 0 ≤ x8 then (if x8 < (x3.length : Int) then (if (rd x3 x9) = (rd x3 x8) then (if x9 < (x6.length : Int) then (if x8 < (x6.length : Int) then (railplanref11_Components.l3 k x3 (x6.set (x8 : Int).toNat (rd x6 x9)) x7 x8 (wrap64 (x9 + 1)) x45 x46) else (none)) else (none)) else (railplanref11_Components.l3 k x3 x6 x7 x8 (wrap64 (x9 + 1)) x45 x46)) else (none)) else (none)) else (none)) else (none)) else (if 0 ≤ x8 then (if x8 < (x6.length : Int) then (if (rd x6 x8) < 0 then (railplanref11_Components.l2 k x3 (x6.set (x8 : Int).toNat x7) (wrap64 (x7 + 1)) x45 (wrap64 (x46 + 1))) else (railplanref11_Components.l2 k x3 x6 x7 x45 (wrap64 (x46 + 1)))) else (none)) else (none))
end
def railplanref11_Components.f (k : Nat) (a0_0 : Int) (l0_1 : List (S60)) (l0_2 : List (S62)) : Option (List Int) := (railplanref11_Check.f k a0_0 l0_1 l0_2).bind fun t165 => (if t165 = true then (if 0 ≤ (l0_1.length : Int) then (if ((l0_1.length : Int) : Int).toNat ≤ 35184372088832 then ((some (List.replicate ((l0_1.length : Int) : Int).toNat 0 : List Int)).bind fun y166 => (railplanref11_Components.l0 k y166 (y166.length : Int) 0 a0_0 l0_1 l0_2)) else (none)) else (none)) else (some ([] : List Int)))
theorem railplanref11_Components.mono_l : ∀ k, (∀ y0 y1 y2 y3 y4 y5, LeO (railplanref11_Components.l0 k y0 y1 y2 y3 y4 y5) (railplanref11_Components.l0 (k + 1) y0 y1 y2 y3 y4 y5)) ∧ (∀ y0 y1 y2 y3 y4, LeO (railplanref11_Components.l1 k y0 y1 y2 y3 y4) (railplanref11_Components.l1 (k + 1) y0 y1 y2 y3 y4)) ∧ (∀ y0 y1 y2 y3 y4, LeO (railplanref11_Components.l2 k y0 y1 y2 y3 y4) (railplanref11_Components.l2 (k + 1) y0 y1 y2 y3 y4)) ∧ (∀ y0 y1 y2 y3 y4 y5 y6, LeO (railplanref11_Components.l3 k y0 y1 y2 y3 y4 y5 y6) (railplanref11_Components.l3 (k + 1) y0 y1 y2 y3 y4 y5 y6))
 | 0 => ⟨fun _ _ _ _ _ _ r h => by simp [railplanref11_Components.l0] at h, fun _ _ _ _ _ r h => by simp [railplanref11_Components.l1] at h, fun _ _ _ _ _ r h => by simp [railplanref11_Components.l2] at h, fun _ _ _ _ _ _ _ r h => by simp [railplanref11_Components.l3] at h⟩
 | k + 1 => by
  obtain ⟨ih0, ih1, ih2, ih3⟩ := railplanref11_Components.mono_l k
  refine ⟨?_, ?_, ?_, ?_⟩
  ·intro y0 y1 y2 y3 y4 y5
   unfold railplanref11_Components.l0
   repeat' first
   | (with_reducible exact ih0 _ _ _ _ _ _)
   | (with_reducible exact ih1 _ _ _ _ _)
   | (with_reducible exact ih2 _ _ _ _ _)
   | (with_reducible exact ih3 _ _ _ _ _ _ _)
   | (with_reducible exact railplanref11_Check.mono _ _ _ _)
   | (with_reducible exact railplanref11_merge.mono _ _ _ _ _ _ _ _)
   | (with_reducible exact LeO.refl _)
   | (with_reducible exact LeO.none _)
   | (with_reducible refine LeO.ite ?_ ?_)
   | (with_reducible refine LeO.bind ?_ (fun _ => ?_))
   | exact ih0 _ _ _ _ _ _
   | exact ih1 _ _ _ _ _
   | exact ih2 _ _ _ _ _
   | exact ih3 _ _ _ _ _ _ _
   | exact railplanref11_Check.mono _ _ _ _
   | exact railplanref11_merge.mono _ _ _ _ _ _ _ _
   | exact LeO.none _
   | refine LeO.ite ?_ ?_
   | refine LeO.bind ?_ (fun _ => ?_)
  ·intro y0 y1 y2 y3 y4
   unfold railplanref11_Components.l1
   repeat' first
   | (with_reducible exact ih0 _ _ _ _ _ _)
   | (with_reducible exact ih1 _ _ _ _ _)
   | (with_reducible exact ih2 _ _ _ _ _)
   | (with_reducible exact ih3 _ _ _ _ _ _ _)
   | (with_reducible exact railplanref11_Check.mono _ _ _ _)
   | (with_reducible exact railplanref11_merge.mono _ _ _ _ _ _ _ _)
   | (with_reducible exact LeO.refl _)
   | (with_reducible exact LeO.none _)
   | (with_reducible refine LeO.ite ?_ ?_)
   | (with_reducible refine LeO.bind ?_ (fun _ => ?_))
   | exact ih0 _ _ _ _ _ _
   | exact ih1 _ _ _ _ _
   | exact ih2 _ _ _ _ _
   | exact ih3 _ _ _ _ _ _ _
   | exact railplanref11_Check.mono _ _ _ _
   | exact railplanref11_merge.mono _ _ _ _ _ _ _ _
   | exact LeO.none _
   | refine LeO.ite ?_ ?_
   | refine LeO.bind ?_ (fun _ => ?_)
  ·intro y0 y1 y2 y3 y4
   unfold railplanref11_Components.l2
   repeat' first
   | (with_reducible exact ih0 _ _ _ _ _ _)
   | (with_reducible exact ih1 _ _ _ _ _)
   | (with_reducible exact ih2 _ _ _ _ _)
   | (with_reducible exact ih3 _ _ _ _ _ _ _)
   | (with_reducible exact railplanref11_Check.mono _ _ _ _)
   | (with_reducible exact railplanref11_merge.mono _ _ _ _ _ _ _ _)
   | (with_reducible exact LeO.refl _)
   | (with_reducible exact LeO.none _)
   | (with_reducible refine LeO.ite ?_ ?_)
   | (with_reducible refine LeO.bind ?_ (fun _ => ?_))
   | exact ih0 _ _ _ _ _ _
   | exact ih1 _ _ _ _ _
   | exact ih2 _ _ _ _ _
   | exact ih3 _ _ _ _ _ _ _
   | exact railplanref11_Check.mono _ _ _ _
   | exact railplanref11_merge.mono _ _ _ _ _ _ _ _
   | exact LeO.none _
   | refine LeO.ite ?_ ?_
   | refine LeO.bind ?_ (fun _ => ?_)
  ·intro y0 y1 y2 y3 y4 y5 y6
   unfold railplanref11_Components.l3
   repeat' first
   | (with_reducible exact ih0 _ _ _ _ _ _)
   | (with_reducible exact ih1 _ _ _ _ _)
   | (with_reducible exact ih2 _ _ _ _ _)
   | (with_reducible exact ih3 _ _ _ _ _ _ _)
   | (with_reducible exact railplanref11_Check.mono _ _ _ _)
   | (with_reducible exact railplanref11_merge.mono _ _ _ _ _ _ _ _)
   | (with_reducible exact LeO.refl _)
   | (with_reducible exact LeO.none _)
   | (with_reducible refine LeO.ite ?_ ?_)
   | (with_reducible refine LeO.bind ?_ (fun _ => ?_))
   | exact ih0 _ _ _ _ _ _
   | exact ih1 _ _ _ _ _
   | exact ih2 _ _ _ _ _
   | exact ih3 _ _ _ _ _ _ _
   | exact railplanref11_Check.mono _ _ _ _
   | exact railplanref11_merge.mono _ _ _ _ _ _ _ _
   | exact LeO.none _
   | refine LeO.ite ?_ ?_
   | refine LeO.bind ?_ (fun _ => ?_)
theorem railplanref11_Components.mono : ∀ a0 a1 a2 k, LeO (railplanref11_Components.f k a0 a1 a2) (railplanref11_Components.f (k + 1) a0 a1 a2) := by
 intro a0 a1 a2 k
 obtain ⟨ih0, ih1, ih2, ih3⟩ := railplanref11_Components.mono_l k
 unfold railplanref11_Components.f
 repeat' first
   | (with_reducible exact ih0 _ _ _ _ _ _)
   | (with_reducible exact ih1 _ _ _ _ _)
   | (with_reducible exact ih2 _ _ _ _ _)
   | (with_reducible exact ih3 _ _ _ _ _ _ _)
   | (with_reducible exact railplanref11_Check.mono _ _ _ _)
   | (with_reducible exact railplanref11_merge.mono _ _ _ _ _ _ _ _)
   | (with_reducible exact LeO.refl _)
   | (with_reducible exact LeO.none _)
   | (with_reducible refine LeO.ite ?_ ?_)
   | (with_reducible refine LeO.bind ?_ (fun _ => ?_))
   | exact ih0 _ _ _ _ _ _
   | exact ih1 _ _ _ _ _
   | exact ih2 _ _ _ _ _
   | exact ih3 _ _ _ _ _ _ _
   | exact railplanref11_Check.mono _ _ _ _
   | exact railplanref11_merge.mono _ _ _ _ _ _ _ _
   | exact LeO.none _
   | refine LeO.ite ?_ ?_
   | refine LeO.bind ?_ (fun _ => ?_)
set_option maxHeartbeats 8000000 in
set_option maxRecDepth 100000 in
theorem railplanref11_Components.calls (k : Nat) (a0_0 : Int) (A0_1 : Option Addr) (c0_1 : Nat) (l0_1 : List (S60)) (A0_2 : Option Addr) (c0_2 : Nat) (l0_2 : List (S62)) (r : List Int) (w : World) (hr0_1 : Kd.C k60 w A0_1 l0_1.length l0_1) (hc0_1 : l0_1.length ≤ c0_1) (hr0_2 : Kd.C k62 w A0_2 l0_2.length l0_2) (hc0_2 : l0_2.length ≤ c0_2) (h : railplanref11_Components.f k a0_0 l0_1 l0_2 = some r) :
  Calls Try.prog 45 #[.agg #[.int .i64 a0_0, .slice A0_1 l0_1.length c0_1, .slice A0_2 l0_2.length c0_2]] w fun e w' => ∃ v0_ : Value, e = .returned (v0_) ∧ Kd.R (Kd.int .i64) 3 w' w.heap.size (fun _ => True) v0_ r ∧ Below w.heap.size w w' := by
 have hu26 := Try.underlying26
 have hu62 := Try.underlying62
 have HR0_1 := qo hr0_1
 have HC0_1 := qo hc0_1
 clear hr0_1 hc0_1
 have HR0_2 := qo hr0_2
 have HC0_2 := qo hc0_2
 clear hr0_2 hc0_2
 have HB := qo (qaj w.heap.size w)
 have H : ((railplanref11_Check.f k a0_0 l0_1 l0_2).bind fun t165 => (if t165 = true then (if 0 ≤ (l0_1.length : Int) then (if ((l0_1.length : Int) : Int).toNat ≤ 35184372088832 then ((some (List.replicate ((l0_1.length : Int) : Int).toNat 0 : List Int)).bind fun y166 => (railplanref11_Components.l0 k y166 (y166.length : Int) 0 a0_0 l0_1 l0_2)) else (none)) else (none)) else (some ([] : List Int)))) = some r := h
 clear h
 replace H := Option.bind_eq_some_iff.mp H
 obtain ⟨t165, A20, H⟩ := H
 replace H : (if t165 = true then (if 0 ≤ (l0_1.length : Int) then (if ((l0_1.length : Int) : Int).toNat ≤ 35184372088832 then ((some (List.replicate ((l0_1.length : Int) : Int).toNat 0 : List Int)).bind fun y166 => (railplanref11_Components.l0 k y166 (y166.length : Int) 0 a0_0 l0_1 l0_2)) else (none)) else (none)) else (some ([] : List Int))) = some r := H
 have A2 := qo A20
 clear A20
 by_cases c3 : t165 = true
 ·subst c3
  have H1 : (if 0 ≤ (l0_1.length : Int) then (if ((l0_1.length : Int) : Int).toNat ≤ 35184372088832 then ((some (List.replicate ((l0_1.length : Int) : Int).toNat 0 : List Int)).bind fun y166 => (railplanref11_Components.l0 k y166 (y166.length : Int) 0 a0_0 l0_1 l0_2)) else (none)) else (none)) = some r := by rw [if_pos rfl] at H; exact H
  clear H
  have H := H1
  clear H1
  by_cases c4 : 0 ≤ (l0_1.length : Int)
  ·rw [if_pos c4] at H
   have c4b0 := eq_true c4
   have c4b1 : decide (0 ≤ (l0_1.length : Int)) = true := qac c4
   clear c4
   by_cases c5 : ((l0_1.length : Int) : Int).toNat ≤ 35184372088832
   ·rw [if_pos c5] at H
    have c5b0 := eq_true c5
    have c5b1 : decide (((l0_1.length : Int) : Int).toNat ≤ 35184372088832) = true := qac c5
    clear c5
    obtain ⟨y166, hy166⟩ : ∃ y_ : List Int, y_ = (List.replicate ((l0_1.length : Int) : Int).toNat 0) := ⟨_, rfl⟩
    replace H : (railplanref11_Components.l0 k y166 (y166.length : Int) 0 a0_0 l0_1 l0_2) = some r := by first | (rw [hy166]; with_reducible exact H) | (have H2_ := (Option.bind_some _ _).symm.trans H; rw [hy166]; with_reducible exact H2_) | (have H2_ := (Option.bind_some _ _).symm.trans H; with_reducible exact H2_) | with_reducible exact H | (rw [hy166]; exact H) | exact H
    have Ny166 := qo hy166
    clear hy166
    have H' := qo H
    clear H
    go_enter Try.func45, Try.ntmps45
    go_wp2_with (first | ((with_reducible refine gate_dst (N := 1) rfl ?_); refine box_event ?hg (N := 1) ?hd (cs := #[.int .i64 a0_0, .slice A0_1 l0_1.length c0_1, .slice A0_2 l0_2.length c0_2]) (t := 26) ?hr ?_; (case hd => rfl); (case hg => rfl); (case hr => first | (go_simp; done) | (go_simp; rfl)); intro gb164 hg w6 hbox hb; have n0_ := qo (qt (by repeat (first | (with_reducible first | exact HB.out | apply qc | apply qb | apply qd) | exact HB.out)) hb); have n1_ := qo (hbox); have n2_ := qo ((by rw [hg]; exact (qu (by repeat (first | (with_reducible first | exact HB.out | apply qc | apply qb | apply qd) | exact HB.out))) : w.heap.size ≤ gb164)); have n3_ := qo ((by rw [hg]; exact (qu (by repeat (first | (with_reducible first | exact HB.out | apply qc | apply qb | apply qd) | exact HB.out))) : w.heap.size ≤ gb164)); clear HB; have HB := n0_; have BK164 := n1_; have GW164 := n2_; have GE164 := n3_; clear n0_ n1_ n2_ n3_; clear hb hbox hg; have hcz7_0 : w6.cell? ⟨gb164, 0, none⟩ = some (.int .i64 a0_0) := (qe BK164.out 0).trans rfl; have hcz7_1 : w6.cell? ⟨gb164, 1, none⟩ = some (.slice A0_1 l0_1.length c0_1) := (qe BK164.out 1).trans rfl; have hcz7_2 : w6.cell? ⟨gb164, 2, none⟩ = some (.slice A0_2 l0_2.length c0_2) := (qe BK164.out 2).trans rfl; have hfz7_0 := qf BK164.out 0; have hfz7_1 := qf BK164.out 1; have hfz7_2 := qf BK164.out 2) | (go_at_call 37; (with_reducible refine (railplanref11_Check.calls k a0_0 _ _ l0_1 _ _ l0_2 true _ ?side1 ?side2 ?side3 ?side4 A2.out).mono ?_); (case side1 => repeat (first | exact (qs HR0_1.out HB.out) | (with_reducible refine qv ?_ _) | (with_reducible refine qw ?_ _) | (with_reducible refine qx ?_))); (case side2 => exact HC0_1.out); (case side3 => repeat (first | exact (qs HR0_2.out HB.out) | (with_reducible refine qv ?_ _) | (with_reducible refine qw ?_ _) | (with_reducible refine qx ?_))); (case side4 => exact HC0_2.out); rintro e w8 ⟨rfl, hb⟩; have n0_ := qo (qaa (g := gb164) (o := .cells #[.int .i64 a0_0, .slice A0_1 l0_1.length c0_1, .slice A0_2 l0_2.length c0_2] 26 (0, 0)) (by (with_reducible repeat (first | refine ql ?_ _ | refine qm ?_ | refine qk ?_ _)); exact BK164.out) hb); have n1_ := qo (qt (by repeat (first | (with_reducible first | exact HB.out | apply qc | apply qb | apply qd | refine qn ?_ GE164.out) | exact HB.out)) hb); clear BK164; clear HB; have BK164 := n0_; have HB := n1_; clear n0_ n1_; (try clear hb); (try clear hb2); (try clear hk); (try clear hi); have hcz9_0 : w8.cell? ⟨gb164, 0, none⟩ = some (.int .i64 a0_0) := (qe BK164.out 0).trans rfl; have hcz9_1 : w8.cell? ⟨gb164, 1, none⟩ = some (.slice A0_1 l0_1.length c0_1) := (qe BK164.out 1).trans rfl; have hcz9_2 : w8.cell? ⟨gb164, 2, none⟩ = some (.slice A0_2 l0_2.length c0_2) := (qe BK164.out 2).trans rfl; have hfz9_0 := qf BK164.out 0; have hfz9_1 := qf BK164.out 1; have hfz9_2 := qf BK164.out 2) | ((with_reducible refine gate_dst (N := 16) rfl ?_); refine Kd.R_make (Kd.int .i64) _ 3 rfl (N := 16) rfl 22 _ _ rfl (l0_1.length : Int) rfl rfl Try.underlying22 (.int .i64 0) 8 info3 rfl (by decide) (by omega) 0 (ok := fun _ => True) (okp := fun _ => True) rfl (fun _ hk => hk) trivial (qq (by first | (with_reducible assumption) | assumption)) (Nat.le_trans (Nat.mul_le_mul_right _ (qq (by first | (with_reducible assumption) | assumption) : (l0_1.length : Int).toNat ≤ 35184372088832)) (by omega)) (qaj _ _) (Nat.le_refl _) ?_; intro v167 w10 ho11 hb hg_ hnew_; clear hg_ hnew_; (first | rw [← Ny166.out] at ho11 | (simp only [Int.reduceToNat] at ho11; rw [← Ny166.out] at ho11)); have n0_ := qo (qag ho11 (qu (by repeat (first | (with_reducible first | exact HB.out | apply qc | apply qb | apply qd | refine qn ?_ GE164.out) | exact HB.out)))); have n1_ := qo (qaa (g := gb164) (o := .cells #[.int .i64 a0_0, .slice A0_1 l0_1.length c0_1, .slice A0_2 l0_2.length c0_2] 26 (0, 0)) (by (with_reducible repeat (first | refine ql ?_ _ | refine qm ?_ | refine qk ?_ _)); exact BK164.out) hb); have n2_ := qo (qt (by repeat (first | (with_reducible first | exact HB.out | apply qc | apply qb | apply qd | refine qn ?_ GE164.out) | exact HB.out)) hb); clear BK164; clear HB; have HO168 := n0_; have BK164 := n1_; have HB := n2_; clear n0_ n1_ n2_; clear hb ho11; obtain ⟨Ao12, co12, eo12⟩ := qak HO168.out; subst eo12))
    repeat (go_quiet (first | ((with_reducible refine gate_dst (N := 1) rfl ?_); refine box_event ?hg (N := 1) ?hd (cs := #[.int .i64 a0_0, .slice A0_1 l0_1.length c0_1, .slice A0_2 l0_2.length c0_2]) (t := 26) ?hr ?_; (case hd => rfl); (case hg => rfl); (case hr => first | (go_simp; done) | (go_simp; rfl)); intro gb164 hg w6 hbox hb; have n0_ := qo (qt (by repeat (first | (with_reducible first | exact HB.out | apply qc | apply qb | apply qd) | exact HB.out)) hb); have n1_ := qo (hbox); have n2_ := qo ((by rw [hg]; exact (qu (by repeat (first | (with_reducible first | exact HB.out | apply qc | apply qb | apply qd) | exact HB.out))) : w.heap.size ≤ gb164)); have n3_ := qo ((by rw [hg]; exact (qu (by repeat (first | (with_reducible first | exact HB.out | apply qc | apply qb | apply qd) | exact HB.out))) : w.heap.size ≤ gb164)); clear HB; have HB := n0_; have BK164 := n1_; have GW164 := n2_; have GE164 := n3_; clear n0_ n1_ n2_ n3_; clear hb hbox hg; have hcz7_0 : w6.cell? ⟨gb164, 0, none⟩ = some (.int .i64 a0_0) := (qe BK164.out 0).trans rfl; have hcz7_1 : w6.cell? ⟨gb164, 1, none⟩ = some (.slice A0_1 l0_1.length c0_1) := (qe BK164.out 1).trans rfl; have hcz7_2 : w6.cell? ⟨gb164, 2, none⟩ = some (.slice A0_2 l0_2.length c0_2) := (qe BK164.out 2).trans rfl; have hfz7_0 := qf BK164.out 0; have hfz7_1 := qf BK164.out 1; have hfz7_2 := qf BK164.out 2) | (go_at_call 37; (with_reducible refine (railplanref11_Check.calls k a0_0 _ _ l0_1 _ _ l0_2 true _ ?side1 ?side2 ?side3 ?side4 A2.out).mono ?_); (case side1 => repeat (first | exact (qs HR0_1.out HB.out) | (with_reducible refine qv ?_ _) | (with_reducible refine qw ?_ _) | (with_reducible refine qx ?_))); (case side2 => exact HC0_1.out); (case side3 => repeat (first | exact (qs HR0_2.out HB.out) | (with_reducible refine qv ?_ _) | (with_reducible refine qw ?_ _) | (with_reducible refine qx ?_))); (case side4 => exact HC0_2.out); rintro e w8 ⟨rfl, hb⟩; have n0_ := qo (qaa (g := gb164) (o := .cells #[.int .i64 a0_0, .slice A0_1 l0_1.length c0_1, .slice A0_2 l0_2.length c0_2] 26 (0, 0)) (by (with_reducible repeat (first | refine ql ?_ _ | refine qm ?_ | refine qk ?_ _)); exact BK164.out) hb); have n1_ := qo (qt (by repeat (first | (with_reducible first | exact HB.out | apply qc | apply qb | apply qd | refine qn ?_ GE164.out) | exact HB.out)) hb); clear BK164; clear HB; have BK164 := n0_; have HB := n1_; clear n0_ n1_; (try clear hb); (try clear hb2); (try clear hk); (try clear hi); have hcz9_0 : w8.cell? ⟨gb164, 0, none⟩ = some (.int .i64 a0_0) := (qe BK164.out 0).trans rfl; have hcz9_1 : w8.cell? ⟨gb164, 1, none⟩ = some (.slice A0_1 l0_1.length c0_1) := (qe BK164.out 1).trans rfl; have hcz9_2 : w8.cell? ⟨gb164, 2, none⟩ = some (.slice A0_2 l0_2.length c0_2) := (qe BK164.out 2).trans rfl; have hfz9_0 := qf BK164.out 0; have hfz9_1 := qf BK164.out 1; have hfz9_2 := qf BK164.out 2) | ((with_reducible refine gate_dst (N := 16) rfl ?_); refine Kd.R_make (Kd.int .i64) _ 3 rfl (N := 16) rfl 22 _ _ rfl (l0_1.length : Int) rfl rfl Try.underlying22 (.int .i64 0) 8 info3 rfl (by decide) (by omega) 0 (ok := fun _ => True) (okp := fun _ => True) rfl (fun _ hk => hk) trivial (qq (by first | (with_reducible assumption) | assumption)) (Nat.le_trans (Nat.mul_le_mul_right _ (qq (by first | (with_reducible assumption) | assumption) : (l0_1.length : Int).toNat ≤ 35184372088832)) (by omega)) (qaj _ _) (Nat.le_refl _) ?_; intro v167 w10 ho11 hb hg_ hnew_; clear hg_ hnew_; (first | rw [← Ny166.out] at ho11 | (simp only [Int.reduceToNat] at ho11; rw [← Ny166.out] at ho11)); have n0_ := qo (qag ho11 (qu (by repeat (first | (with_reducible first | exact HB.out | apply qc | apply qb | apply qd | refine qn ?_ GE164.out) | exact HB.out)))); have n1_ := qo (qaa (g := gb164) (o := .cells #[.int .i64 a0_0, .slice A0_1 l0_1.length c0_1, .slice A0_2 l0_2.length c0_2] 26 (0, 0)) (by (with_reducible repeat (first | refine ql ?_ _ | refine qm ?_ | refine qk ?_ _)); exact BK164.out) hb); have n2_ := qo (qt (by repeat (first | (with_reducible first | exact HB.out | apply qc | apply qb | apply qd | refine qn ?_ GE164.out) | exact HB.out)) hb); clear BK164; clear HB; have HO168 := n0_; have BK164 := n1_; have HB := n2_; clear n0_ n1_ n2_; clear hb ho11; obtain ⟨Ao12, co12, eo12⟩ := qak HO168.out; subst eo12)); try go_wp2_with (first | ((with_reducible refine gate_dst (N := 1) rfl ?_); refine box_event ?hg (N := 1) ?hd (cs := #[.int .i64 a0_0, .slice A0_1 l0_1.length c0_1, .slice A0_2 l0_2.length c0_2]) (t := 26) ?hr ?_; (case hd => rfl); (case hg => rfl); (case hr => first | (go_simp; done) | (go_simp; rfl)); intro gb164 hg w6 hbox hb; have n0_ := qo (qt (by repeat (first | (with_reducible first | exact HB.out | apply qc | apply qb | apply qd) | exact HB.out)) hb); have n1_ := qo (hbox); have n2_ := qo ((by rw [hg]; exact (qu (by repeat (first | (with_reducible first | exact HB.out | apply qc | apply qb | apply qd) | exact HB.out))) : w.heap.size ≤ gb164)); have n3_ := qo ((by rw [hg]; exact (qu (by repeat (first | (with_reducible first | exact HB.out | apply qc | apply qb | apply qd) | exact HB.out))) : w.heap.size ≤ gb164)); clear HB; have HB := n0_; have BK164 := n1_; have GW164 := n2_; have GE164 := n3_; clear n0_ n1_ n2_ n3_; clear hb hbox hg; have hcz7_0 : w6.cell? ⟨gb164, 0, none⟩ = some (.int .i64 a0_0) := (qe BK164.out 0).trans rfl; have hcz7_1 : w6.cell? ⟨gb164, 1, none⟩ = some (.slice A0_1 l0_1.length c0_1) := (qe BK164.out 1).trans rfl; have hcz7_2 : w6.cell? ⟨gb164, 2, none⟩ = some (.slice A0_2 l0_2.length c0_2) := (qe BK164.out 2).trans rfl; have hfz7_0 := qf BK164.out 0; have hfz7_1 := qf BK164.out 1; have hfz7_2 := qf BK164.out 2) | (go_at_call 37; (with_reducible refine (railplanref11_Check.calls k a0_0 _ _ l0_1 _ _ l0_2 true _ ?side1 ?side2 ?side3 ?side4 A2.out).mono ?_); (case side1 => repeat (first | exact (qs HR0_1.out HB.out) | (with_reducible refine qv ?_ _) | (with_reducible refine qw ?_ _) | (with_reducible refine qx ?_))); (case side2 => exact HC0_1.out); (case side3 => repeat (first | exact (qs HR0_2.out HB.out) | (with_reducible refine qv ?_ _) | (with_reducible refine qw ?_ _) | (with_reducible refine qx ?_))); (case side4 => exact HC0_2.out); rintro e w8 ⟨rfl, hb⟩; have n0_ := qo (qaa (g := gb164) (o := .cells #[.int .i64 a0_0, .slice A0_1 l0_1.length c0_1, .slice A0_2 l0_2.length c0_2] 26 (0, 0)) (by (with_reducible repeat (first | refine ql ?_ _ | refine qm ?_ | refine qk ?_ _)); exact BK164.out) hb); have n1_ := qo (qt (by repeat (first | (with_reducible first | exact HB.out | apply qc | apply qb | apply qd | refine qn ?_ GE164.out) | exact HB.out)) hb); clear BK164; clear HB; have BK164 := n0_; have HB := n1_; clear n0_ n1_; (try clear hb); (try clear hb2); (try clear hk); (try clear hi); have hcz9_0 : w8.cell? ⟨gb164, 0, none⟩ = some (.int .i64 a0_0) := (qe BK164.out 0).trans rfl; have hcz9_1 : w8.cell? ⟨gb164, 1, none⟩ = some (.slice A0_1 l0_1.length c0_1) := (qe BK164.out 1).trans rfl; have hcz9_2 : w8.cell? ⟨gb164, 2, none⟩ = some (.slice A0_2 l0_2.length c0_2) := (qe BK164.out 2).trans rfl; have hfz9_0 := qf BK164.out 0; have hfz9_1 := qf BK164.out 1; have hfz9_2 := qf BK164.out 2) | ((with_reducible refine gate_dst (N := 16) rfl ?_); refine Kd.R_make (Kd.int .i64) _ 3 rfl (N := 16) rfl 22 _ _ rfl (l0_1.length : Int) rfl rfl Try.underlying22 (.int .i64 0) 8 info3 rfl (by decide) (by omega) 0 (ok := fun _ => True) (okp := fun _ => True) rfl (fun _ hk => hk) trivial (qq (by first | (with_reducible assumption) | assumption)) (Nat.le_trans (Nat.mul_le_mul_right _ (qq (by first | (with_reducible assumption) | assumption) : (l0_1.length : Int).toNat ≤ 35184372088832)) (by omega)) (qaj _ _) (Nat.le_refl _) ?_; intro v167 w10 ho11 hb hg_ hnew_; clear hg_ hnew_; (first | rw [← Ny166.out] at ho11 | (simp only [Int.reduceToNat] at ho11; rw [← Ny166.out] at ho11)); have n0_ := qo (qag ho11 (qu (by repeat (first | (with_reducible first | exact HB.out | apply qc | apply qb | apply qd | refine qn ?_ GE164.out) | exact HB.out)))); have n1_ := qo (qaa (g := gb164) (o := .cells #[.int .i64 a0_0, .slice A0_1 l0_1.length c0_1, .slice A0_2 l0_2.length c0_2] 26 (0, 0)) (by (with_reducible repeat (first | refine ql ?_ _ | refine qm ?_ | refine qk ?_ _)); exact BK164.out) hb); have n2_ := qo (qt (by repeat (first | (with_reducible first | exact HB.out | apply qc | apply qb | apply qd | refine qn ?_ GE164.out) | exact HB.out)) hb); clear BK164; clear HB; have HO168 := n0_; have BK164 := n1_; have HB := n2_; clear n0_ n1_ n2_; clear hb ho11; obtain ⟨Ao12, co12, eo12⟩ := qak HO168.out; subst eo12)))
    go_loopg [19] k (fun kq v19 w' => ∃ (x3_1 : List Int) (x19_1 : Int), v19 = .int .i64 x19_1 ∧ Aside0 (railplanref11_Components.l0 kq x3_1 (y166.length : Int) x19_1 a0_0 l0_1 l0_2 = some r) ∧ Aside0 (kq ≤ k) ∧ Aside0 (Kd.R (Kd.int .i64) 3 w' w.heap.size (fun _ => True) (.slice Ao12 y166.length co12) x3_1) ∧ Aside0 (w'.heap[gb164]? = some (.cells #[.int .i64 a0_0, (.slice A0_1 l0_1.length c0_1), (.slice A0_2 l0_2.length c0_2)] 26 (0, 0))) ∧ Aside0 (Below w.heap.size w w'))
    case atStart => exact ⟨(y166), (0), (by first | rfl | (simp; done) | (simp [*]; done)), H', ⟨Nat.le_refl _⟩, ⟨by (with_reducible repeat (first | apply qh | apply qg | apply qi)); exact HO168.out⟩, ⟨by (with_reducible repeat (first | refine ql ?_ _ | refine qm ?_ | refine qk ?_ _)); exact BK164.out⟩, ⟨by repeat (first | (with_reducible first | exact HB.out | apply qc | apply qb | apply qd | refine qn ?_ GE164.out) | exact HB.out)⟩⟩
    case round =>
     clear H'
     try clear p2
     try clear c3
     try clear c4
     try clear c4b0
     try clear c4b1
     try clear c5
     try clear c5b0
     try clear c5b1
     try clear hcz7_0
     try clear hcz7_1
     try clear hcz7_2
     try clear hcz9_0
     try clear hcz9_1
     try clear hcz9_2
     try clear hfz7_0
     try clear hfz7_1
     try clear hfz7_2
     try clear hfz9_0
     try clear hfz9_1
     try clear hfz9_2
     obtain ⟨x3_1, x19_1, rfl, HA, HK1, HO_3, BK164, HB⟩ := hrel
     have hl3_1 := (qr HO_3.out).1
     rw [hl3_1] at HO_3
     (try simp only [hl3_1])
     (try simp only [hl3_1] at BK164)
     cases gk with
     | zero => exact absurd HA.out (by simp [railplanref11_Components.l0])
     | succ k1 =>
      have H := HA.out
      clear HA
      simp only [railplanref11_Components.l0] at H
      by_cases c13 : x19_1 < (y166.length : Int)
      ·rw [if_pos c13] at H
       have c13b0 : decide (x19_1 < (y166.length : Int)) = true := qac c13
       (try (have c13b9_0 := c13b0; simp only [hl3_1] at c13b9_0))
       clear c13
       by_cases c14 : 0 ≤ x19_1
       ·rw [if_pos c14] at H
        have c14b0 : decide (0 ≤ x19_1) = true := qac c14
        clear c14
        by_cases c15 : x19_1 < (x3_1.length : Int)
        ·rw [if_pos c15] at H
         have c15b0 : decide (x19_1 < (x3_1.length : Int)) = true := qac c15
         (try (have c15b9_0 := c15b0; simp only [hl3_1] at c15b9_0))
         clear c15
         obtain ⟨y169, hy169⟩ : ∃ y_ : List Int, y_ = (x3_1.set (x19_1 : Int).toNat x19_1) := ⟨_, rfl⟩
         replace H : (railplanref11_Components.l0 k1 y169 (y166.length : Int) (wrap64 (x19_1 + 1)) a0_0 l0_1 l0_2) = some r := by first | (rw [hy169]; with_reducible exact H) | (have H2_ := (Option.bind_some _ _).symm.trans H; rw [hy169]; with_reducible exact H2_) | (have H2_ := (Option.bind_some _ _).symm.trans H; with_reducible exact H2_) | with_reducible exact H | (rw [hy169]; exact H) | exact H
         have Ny169 := qo hy169
         clear hy169
         have H' := qo H
         clear H
         have p16 : 0 ≤ (x19_1 : Int) := qq (by first | (with_reducible assumption) | assumption)
         have q16 : (x19_1 : Int) < ((x3_1.length : Int) : Int) := qq (by first | (with_reducible assumption) | assumption)
         obtain ⟨go16, co16, eo16, gb16, gl16, cl16, HG16⟩ := Kd.R_form HO_3.out (by first | omega | (have e_ := (qr HO_3.out).1; omega))
         (first | cases eo16 | (injection eo16 with ea_ en_ ec_; (first | subst ea_ | (injection ea_ with ea_; subst ea_)); subst ec_; clear en_))
         have GB16 := qo gb16
         have GG16 := qo HG16
         clear gb16 gl16 HG16
         obtain ⟨hx16_0, hf16_0⟩ := Kd.R_celln 0 HO_3.out (x19_1 : Int) p16 q16
         replace p16 := eq_true p16
         replace q16 := eq_true q16
         have HP17 := Kd.R_putg HO_3.out (x19_1 : Int) x19_1
         go_wp2_with (first | ((with_reducible refine gate_store (t := 3) (p := 25) rfl ?_); (try (rw [drewN_self wr]; generalize hq_ : World.drewN wr _ = wr; have n0_ := qo (qan hq_ HO_3.out); have n1_ := qo (qai hq_ BK164.out); have n2_ := qo (qah hq_ HB.out); clear hq_ HO_3 BK164 HB; have HO_3 := n0_; have BK164 := n1_; have HB := n2_; clear n0_ n1_ n2_; (try (obtain ⟨hxq_, hfq_⟩ := Kd.R_celln 0 HO_3.out (x19_1 : Int) (of_eq_true p16) (of_eq_true q16))); (try (have HP17 := Kd.R_putg HO_3.out (x19_1 : Int) x19_1)))); refine store_event (t := 3) (p := 25) (v := ?vo_w18) (w1 := (wr.setCell ⟨go16, (x19_1 : Int).toNat, none⟩ (.int .i64 x19_1))) ?hg ?ho ?hn ?hr ?_; (case ho => rfl); (case hg => rfl); (case hn => rfl); (case hr => first | (go_simp; done) | (go_simp; rfl)); intro w18 hw; have hg : wr.grownBy w18 (some go16) := (by rw [hw]; exact HP17.2); have hp_ : Kd.R (Kd.int .i64) 3 w18 w.heap.size (fun _ => True) (.slice (some ⟨go16, 0, none⟩) x3_1.length co12) y169 := (by rw [hw, Ny169.out]; exact HP17.1); clear HP17; have n0_ := qo (hp_); have n1_ := qo (blk_grown (g := gb164) (o := .cells #[.int .i64 a0_0, .slice A0_1 l0_1.length c0_1, .slice A0_2 l0_2.length c0_2] 26 (0, 0)) (by (with_reducible repeat (first | refine ql ?_ _ | refine qm ?_ | refine qk ?_ _)); exact BK164.out) hg (Kd.R_ne HO_3.out BK164.out (by decide))); have n2_ := qo ((by rw [hw]; exact qn (HB.out) GB16.out : Below w.heap.size w w18)); clear HO_3; clear BK164; clear HB; have HO_3 := n0_; have BK164 := n1_; have HB := n2_; clear n0_ n1_ n2_; clear hg hw hp_))
         repeat (go_quiet (first | ((with_reducible refine gate_store (t := 3) (p := 25) rfl ?_); (try (rw [drewN_self wr]; generalize hq_ : World.drewN wr _ = wr; have n0_ := qo (qan hq_ HO_3.out); have n1_ := qo (qai hq_ BK164.out); have n2_ := qo (qah hq_ HB.out); clear hq_ HO_3 BK164 HB; have HO_3 := n0_; have BK164 := n1_; have HB := n2_; clear n0_ n1_ n2_; (try (obtain ⟨hxq_, hfq_⟩ := Kd.R_celln 0 HO_3.out (x19_1 : Int) (of_eq_true p16) (of_eq_true q16))); (try (have HP17 := Kd.R_putg HO_3.out (x19_1 : Int) x19_1)))); refine store_event (t := 3) (p := 25) (v := ?vo_w18) (w1 := (wr.setCell ⟨go16, (x19_1 : Int).toNat, none⟩ (.int .i64 x19_1))) ?hg ?ho ?hn ?hr ?_; (case ho => rfl); (case hg => rfl); (case hn => rfl); (case hr => first | (go_simp; done) | (go_simp; rfl)); intro w18 hw; have hg : wr.grownBy w18 (some go16) := (by rw [hw]; exact HP17.2); have hp_ : Kd.R (Kd.int .i64) 3 w18 w.heap.size (fun _ => True) (.slice (some ⟨go16, 0, none⟩) x3_1.length co12) y169 := (by rw [hw, Ny169.out]; exact HP17.1); clear HP17; have n0_ := qo (hp_); have n1_ := qo (blk_grown (g := gb164) (o := .cells #[.int .i64 a0_0, .slice A0_1 l0_1.length c0_1, .slice A0_2 l0_2.length c0_2] 26 (0, 0)) (by (with_reducible repeat (first | refine ql ?_ _ | refine qm ?_ | refine qk ?_ _)); exact BK164.out) hg (Kd.R_ne HO_3.out BK164.out (by decide))); have n2_ := qo ((by rw [hw]; exact qn (HB.out) GB16.out : Below w.heap.size w w18)); clear HO_3; clear BK164; clear HB; have HO_3 := n0_; have BK164 := n1_; have HB := n2_; clear n0_ n1_ n2_; clear hg hw hp_)); try go_wp2_with (first | ((with_reducible refine gate_store (t := 3) (p := 25) rfl ?_); (try (rw [drewN_self wr]; generalize hq_ : World.drewN wr _ = wr; have n0_ := qo (qan hq_ HO_3.out); have n1_ := qo (qai hq_ BK164.out); have n2_ := qo (qah hq_ HB.out); clear hq_ HO_3 BK164 HB; have HO_3 := n0_; have BK164 := n1_; have HB := n2_; clear n0_ n1_ n2_; (try (obtain ⟨hxq_, hfq_⟩ := Kd.R_celln 0 HO_3.out (x19_1 : Int) (of_eq_true p16) (of_eq_true q16))); (try (have HP17 := Kd.R_putg HO_3.out (x19_1 : Int) x19_1)))); refine store_event (t := 3) (p := 25) (v := ?vo_w18) (w1 := (wr.setCell ⟨go16, (x19_1 : Int).toNat, none⟩ (.int .i64 x19_1))) ?hg ?ho ?hn ?hr ?_; (case ho => rfl); (case hg => rfl); (case hn => rfl); (case hr => first | (go_simp; done) | (go_simp; rfl)); intro w18 hw; have hg : wr.grownBy w18 (some go16) := (by rw [hw]; exact HP17.2); have hp_ : Kd.R (Kd.int .i64) 3 w18 w.heap.size (fun _ => True) (.slice (some ⟨go16, 0, none⟩) x3_1.length co12) y169 := (by rw [hw, Ny169.out]; exact HP17.1); clear HP17; have n0_ := qo (hp_); have n1_ := qo (blk_grown (g := gb164) (o := .cells #[.int .i64 a0_0, .slice A0_1 l0_1.length c0_1, .slice A0_2 l0_2.length c0_2] 26 (0, 0)) (by (with_reducible repeat (first | refine ql ?_ _ | refine qm ?_ | refine qk ?_ _)); exact BK164.out) hg (Kd.R_ne HO_3.out BK164.out (by decide))); have n2_ := qo ((by rw [hw]; exact qn (HB.out) GB16.out : Below w.heap.size w w18)); clear HO_3; clear BK164; clear HB; have HO_3 := n0_; have BK164 := n1_; have HB := n2_; clear n0_ n1_ n2_; clear hg hw hp_)))
         (try simp only [← hl3_1])
         go_roundg k1
         case measure => have := HK1.out; omega
         case rel => exact ⟨(y169), (wrap64 (x19_1 + 1)), (by first | rfl | (simp; done) | (simp [*]; done)), H', ⟨by have := HK1.out; omega⟩, ⟨by (try simp only [hl3_1]); (with_reducible repeat (first | apply qh | apply qg | apply qi)); exact HO_3.out⟩, ⟨by (try simp only [hl3_1]); (with_reducible repeat (first | refine ql ?_ _ | refine qm ?_ | refine qk ?_ _)); exact BK164.out⟩, ⟨by repeat (first | (with_reducible first | exact HB.out | apply qc | apply qb | apply qd | refine qn ?_ GE164.out) | exact HB.out)⟩⟩
        ·rw [if_neg c15] at H
         exact absurd H (by simp)
       ·rw [if_neg c14] at H
        exact absurd H (by simp)
      ·rw [if_neg c13] at H
       have c13b0 : decide (x19_1 < (y166.length : Int)) = false := qad c13
       (try (have c13b9_0 := c13b0; simp only [hl3_1] at c13b9_0))
       clear c13
       have H' := qo H
       clear H
       go_wp2
       repeat (go_quiet (fail); try go_wp2)
       go_loopg [5] k1 (fun kq v5 w' => ∃ (x3_2 : List Int) (x5_2 : Int), v5 = .int .i64 x5_2 ∧ Aside0 (railplanref11_Components.l1 kq x3_2 x5_2 a0_0 l0_1 l0_2 = some r) ∧ Aside0 (kq ≤ k1) ∧ Aside0 (Kd.R (Kd.int .i64) 3 w' w.heap.size (fun _ => True) (.slice Ao12 x3_1.length co12) x3_2) ∧ Aside0 (w'.heap[gb164]? = some (.cells #[.int .i64 a0_0, (.slice A0_1 l0_1.length c0_1), (.slice A0_2 l0_2.length c0_2)] 26 (0, 0))) ∧ Aside0 (Below w.heap.size w w'))
       case atStart => exact ⟨(x3_1), (0), (by first | rfl | (simp; done) | (simp [*]; done)), H', ⟨Nat.le_refl _⟩, ⟨by (try simp only [hl3_1]); (with_reducible repeat (first | apply qh | apply qg | apply qi)); exact HO_3.out⟩, ⟨by (try simp only [hl3_1]); (with_reducible repeat (first | refine ql ?_ _ | refine qm ?_ | refine qk ?_ _)); exact BK164.out⟩, ⟨by repeat (first | (with_reducible first | exact HB.out | apply qc | apply qb | apply qd | refine qn ?_ GE164.out) | exact HB.out)⟩⟩
       case round =>
        clear H'
        try clear c1
        try clear p1
        try clear q1
        try clear hx1
        try clear hf1
        try clear p2
        try clear c3
        try clear c4
        try clear c4b0
        try clear c4b1
        try clear c5
        try clear c5b0
        try clear c5b1
        try clear p6
        try clear c13
        try clear c13b0
        try clear c14
        try clear c14b0
        try clear c15
        try clear c15b0
        try clear p16
        try clear q16
        try clear hx16
        try clear hf16
        try clear hcz7_0
        try clear hcz7_1
        try clear hcz7_2
        try clear hcz9_0
        try clear hcz9_1
        try clear hcz9_2
        try clear hfz7_0
        try clear hfz7_1
        try clear hfz7_2
        try clear hfz9_0
        try clear hfz9_1
        try clear hfz9_2
        try clear hx16_0
        try clear p16
        try clear p2
        try clear q16
        obtain ⟨x3_2, x5_2, rfl, HA, HK2, HO_3, BK164, HB⟩ := hrel
        have hl3_2 := (qr HO_3.out).1
        rw [hl3_2] at HO_3
        (try simp only [hl3_2])
        (try simp only [hl3_2] at BK164)
        cases gk with
        | zero => exact absurd HA.out (by simp [railplanref11_Components.l1])
        | succ k2 =>
         have H := HA.out
         clear HA
         simp only [railplanref11_Components.l1] at H
         by_cases c19 : x5_2 < (l0_2.length : Int)
         ·rw [if_pos c19] at H
          have c19b0 : decide (x5_2 < (l0_2.length : Int)) = true := qac c19
          (try (have c19b9_0 := c19b0; simp only [hl3_1] at c19b9_0))
          (try (have c19b9_1 := c19b0; simp only [hl3_2] at c19b9_1))
          clear c19
          by_cases c20 : 0 ≤ x5_2
          ·rw [if_pos c20] at H
           have c20b0 : decide (0 ≤ x5_2) = true := qac c20
           clear c20
           replace H := Option.bind_eq_some_iff.mp H
           obtain ⟨⟨t171, t172⟩, A210, H⟩ := H
           replace H : (railplanref11_Components.l1 k2 t172 (wrap64 (x5_2 + 1)) a0_0 l0_1 l0_2) = some r := H
           have A21 := qo A210
           clear A210
           have H' := qo H
           clear H
           have hcz22_0 : wr.cell? ⟨gb164, 0, none⟩ = some (.int .i64 a0_0) := (qe BK164.out 0).trans rfl
           have hcz22_1 : wr.cell? ⟨gb164, 1, none⟩ = some (.slice A0_1 l0_1.length c0_1) := (qe BK164.out 1).trans rfl
           have hcz22_2 : wr.cell? ⟨gb164, 2, none⟩ = some (.slice A0_2 l0_2.length c0_2) := (qe BK164.out 2).trans rfl
           have hfz22_0 := qf BK164.out 0
           have hfz22_1 := qf BK164.out 1
           have hfz22_2 := qf BK164.out 2
           have p170 : 0 ≤ (x5_2 : Int) := qq (by first | (with_reducible assumption) | assumption)
           have q170 : x5_2 < (l0_2.length : Int) := qq (by first | (with_reducible assumption) | assumption)
           obtain ⟨ad170, e170, hx170_0, hx170_1, hx170_2, hx170_3, hx170_4, hx170_5⟩ := at_T62 HR0_2.out x5_2 p170 q170
           cases e170
           replace hx170_0 := (HB.out.cell (qa w _ hx170_0)).trans hx170_0
           replace hx170_1 := (HB.out.cell (qa w _ hx170_1)).trans hx170_1
           replace hx170_2 := (HB.out.cell (qa w _ hx170_2)).trans hx170_2
           replace hx170_3 := (HB.out.cell (qa w _ hx170_3)).trans hx170_3
           replace hx170_4 := (HB.out.cell (qa w _ hx170_4)).trans hx170_4
           replace hx170_5 := (HB.out.cell (qa w _ hx170_5)).trans hx170_5
           replace p170 := eq_true p170
           replace q170 := eq_true q170
           go_wp2_with (first | (go_at_call 50; (with_reducible refine (railplanref11_merge.calls k2 (fun k_ => some k_ = (.slice Ao12 x3_2.length co12 : Value).ownBlock) (.slice Ao12 x3_2.length co12) x3_2 ((rd_T62 l0_2 x5_2).f0) ((rd_T62 l0_2 x5_2).f1) ((rd_T62 l0_2 x5_2).f2) ((rd_T62 l0_2 x5_2).f3) ((rd_T62 l0_2 x5_2).f4) ((rd_T62 l0_2 x5_2).f5) t171 t172 w _ ?side1 ?side2 A21.out).mono ?_); (case side1 => repeat (first | (with_reducible first | exact HB.out | apply qc | apply qb | apply qd | refine qn ?_ GE164.out) | exact HB.out)); (case side2 => exact Kd.R_tight rfl HO_3.out); rintro e w23 ⟨rfl, hy0, hb, hkp⟩; have n0_ := qo (Kd.R_reok rfl hy0 (fun k_ e_ => HO_3.out.1 k_ e_)); have n1_ := qo (blk_kept (by (with_reducible repeat (first | refine ql ?_ _ | refine qm ?_ | refine qk ?_ _)); exact BK164.out) hkp (fun hs_ => (fun e_ => (Kd.R_ne HO_3.out BK164.out (by decide)) e_) hs_)); have n2_ := qo (hb); clear HO_3; clear BK164; clear HB; have HO_3 := n0_; have BK164 := n1_; have HB := n2_; clear n0_ n1_ n2_; (try clear hb); (try clear hkp); (try clear hy0)))
           repeat (go_quiet (first | (go_at_call 50; (with_reducible refine (railplanref11_merge.calls k2 (fun k_ => some k_ = (.slice Ao12 x3_2.length co12 : Value).ownBlock) (.slice Ao12 x3_2.length co12) x3_2 ((rd_T62 l0_2 x5_2).f0) ((rd_T62 l0_2 x5_2).f1) ((rd_T62 l0_2 x5_2).f2) ((rd_T62 l0_2 x5_2).f3) ((rd_T62 l0_2 x5_2).f4) ((rd_T62 l0_2 x5_2).f5) t171 t172 w _ ?side1 ?side2 A21.out).mono ?_); (case side1 => repeat (first | (with_reducible first | exact HB.out | apply qc | apply qb | apply qd | refine qn ?_ GE164.out) | exact HB.out)); (case side2 => exact Kd.R_tight rfl HO_3.out); rintro e w23 ⟨rfl, hy0, hb, hkp⟩; have n0_ := qo (Kd.R_reok rfl hy0 (fun k_ e_ => HO_3.out.1 k_ e_)); have n1_ := qo (blk_kept (by (with_reducible repeat (first | refine ql ?_ _ | refine qm ?_ | refine qk ?_ _)); exact BK164.out) hkp (fun hs_ => (fun e_ => (Kd.R_ne HO_3.out BK164.out (by decide)) e_) hs_)); have n2_ := qo (hb); clear HO_3; clear BK164; clear HB; have HO_3 := n0_; have BK164 := n1_; have HB := n2_; clear n0_ n1_ n2_; (try clear hb); (try clear hkp); (try clear hy0))); try go_wp2_with (first | (go_at_call 50; (with_reducible refine (railplanref11_merge.calls k2 (fun k_ => some k_ = (.slice Ao12 x3_2.length co12 : Value).ownBlock) (.slice Ao12 x3_2.length co12) x3_2 ((rd_T62 l0_2 x5_2).f0) ((rd_T62 l0_2 x5_2).f1) ((rd_T62 l0_2 x5_2).f2) ((rd_T62 l0_2 x5_2).f3) ((rd_T62 l0_2 x5_2).f4) ((rd_T62 l0_2 x5_2).f5) t171 t172 w _ ?side1 ?side2 A21.out).mono ?_); (case side1 => repeat (first | (with_reducible first | exact HB.out | apply qc | apply qb | apply qd | refine qn ?_ GE164.out) | exact HB.out)); (case side2 => exact Kd.R_tight rfl HO_3.out); rintro e w23 ⟨rfl, hy0, hb, hkp⟩; have n0_ := qo (Kd.R_reok rfl hy0 (fun k_ e_ => HO_3.out.1 k_ e_)); have n1_ := qo (blk_kept (by (with_reducible repeat (first | refine ql ?_ _ | refine qm ?_ | refine qk ?_ _)); exact BK164.out) hkp (fun hs_ => (fun e_ => (Kd.R_ne HO_3.out BK164.out (by decide)) e_) hs_)); have n2_ := qo (hb); clear HO_3; clear BK164; clear HB; have HO_3 := n0_; have BK164 := n1_; have HB := n2_; clear n0_ n1_ n2_; (try clear hb); (try clear hkp); (try clear hy0))))
           (try simp only [← hl3_2])
           go_roundg k2
           case measure => have := HK1.out; have := HK2.out; omega
           case rel => exact ⟨(t172), (wrap64 (x5_2 + 1)), (by first | rfl | (simp; done) | (simp [*]; done)), H', ⟨by have := HK1.out; have := HK2.out; omega⟩, ⟨by (try simp only [hl3_1]); (try simp only [hl3_2]); (with_reducible repeat (first | apply qh | apply qg | apply qi)); exact HO_3.out⟩, ⟨by (try simp only [hl3_1]); (try simp only [hl3_2]); (with_reducible repeat (first | refine ql ?_ _ | refine qm ?_ | refine qk ?_ _)); exact BK164.out⟩, ⟨by repeat (first | (with_reducible first | exact HB.out | apply qc | apply qb | apply qd | refine qn ?_ GE164.out) | exact HB.out)⟩⟩
          ·rw [if_neg c20] at H
           exact absurd H (by simp)
         ·rw [if_neg c19] at H
          have c19b0 : decide (x5_2 < (l0_2.length : Int)) = false := qad c19
          (try (have c19b9_0 := c19b0; simp only [hl3_1] at c19b9_0))
          (try (have c19b9_1 := c19b0; simp only [hl3_2] at c19b9_1))
          clear c19
          by_cases c24 : 0 ≤ (x3_2.length : Int)
          ·rw [if_pos c24] at H
           have c24b0 := eq_true c24
           have c24b1 : decide (0 ≤ (x3_2.length : Int)) = true := qac c24
           clear c24
           by_cases c25 : ((x3_2.length : Int) : Int).toNat ≤ 35184372088832
           ·rw [if_pos c25] at H
            have c25b0 := eq_true c25
            have c25b1 : decide (((x3_2.length : Int) : Int).toNat ≤ 35184372088832) = true := qac c25
            clear c25
            obtain ⟨y173, hy173⟩ : ∃ y_ : List Int, y_ = (List.replicate ((x3_2.length : Int) : Int).toNat 0) := ⟨_, rfl⟩
            replace H : (railplanref11_Components.l2 k2 x3_2 y173 0 (x3_2.length : Int) 0) = some r := by first | (rw [hy173]; with_reducible exact H) | (have H2_ := (Option.bind_some _ _).symm.trans H; rw [hy173]; with_reducible exact H2_) | (have H2_ := (Option.bind_some _ _).symm.trans H; with_reducible exact H2_) | with_reducible exact H | (rw [hy173]; exact H) | exact H
            have Ny173 := qo hy173
            clear hy173
            have H' := qo H
            clear H
            have hcz26_0 : wr.cell? ⟨gb164, 0, none⟩ = some (.int .i64 a0_0) := (qe BK164.out 0).trans rfl
            have hcz26_1 : wr.cell? ⟨gb164, 1, none⟩ = some (.slice A0_1 l0_1.length c0_1) := (qe BK164.out 1).trans rfl
            have hcz26_2 : wr.cell? ⟨gb164, 2, none⟩ = some (.slice A0_2 l0_2.length c0_2) := (qe BK164.out 2).trans rfl
            have hfz26_0 := qf BK164.out 0
            have hfz26_1 := qf BK164.out 1
            have hfz26_2 := qf BK164.out 2
            go_wp2_with (first | ((with_reducible refine gate_dst (N := 43) rfl ?_); refine Kd.R_make (Kd.int .i64) _ 3 rfl (N := 43) rfl 22 _ _ rfl (x3_2.length : Int) rfl rfl Try.underlying22 (.int .i64 0) 8 info3 rfl (by decide) (by omega) 0 (ok := fun _ => True) (okp := fun _ => True) rfl (fun _ hk => hk) trivial (qq (by first | (with_reducible assumption) | assumption)) (Nat.le_trans (Nat.mul_le_mul_right _ (qq (by first | (with_reducible assumption) | assumption) : (x3_2.length : Int).toNat ≤ 35184372088832)) (by omega)) (qaj _ _) (Nat.le_refl _) ?_; intro v174 w27 ho28 hb hg_ hnew_; clear hg_ hnew_; (first | rw [← Ny173.out] at ho28 | (simp only [Int.reduceToNat] at ho28; rw [← Ny173.out] at ho28)); have n0_ := qo (Kd.R_elder' (by (with_reducible repeat (first | apply qh | apply qg | apply qi)); exact HO_3.out) (by first | exact Kd.N_base ho28 | exact Kd.S_base ho28 | exact Kd.R_base ho28 | exact Kd.Q_base ho28) hb); have n1_ := qo (qag (Kd.R_new' ho28 (Kd.R_lt (by (with_reducible repeat (first | apply qh | apply qg | apply qi)); exact HO_3.out))) (qu (by repeat (first | (with_reducible first | exact HB.out | apply qc | apply qb | apply qd | refine qn ?_ GE164.out) | exact HB.out)))); have n2_ := qo (qaa (g := gb164) (o := .cells #[.int .i64 a0_0, .slice A0_1 l0_1.length c0_1, .slice A0_2 l0_2.length c0_2] 26 (0, 0)) (by (with_reducible repeat (first | refine ql ?_ _ | refine qm ?_ | refine qk ?_ _)); exact BK164.out) hb); have n3_ := qo (qt (by repeat (first | (with_reducible first | exact HB.out | apply qc | apply qb | apply qd | refine qn ?_ GE164.out) | exact HB.out)) hb); clear HO_3; clear BK164; clear HB; have HO_3 := n0_; have HO175 := n1_; have BK164 := n2_; have HB := n3_; clear n0_ n1_ n2_ n3_; clear hb ho28))
            repeat (go_quiet (first | ((with_reducible refine gate_dst (N := 43) rfl ?_); refine Kd.R_make (Kd.int .i64) _ 3 rfl (N := 43) rfl 22 _ _ rfl (x3_2.length : Int) rfl rfl Try.underlying22 (.int .i64 0) 8 info3 rfl (by decide) (by omega) 0 (ok := fun _ => True) (okp := fun _ => True) rfl (fun _ hk => hk) trivial (qq (by first | (with_reducible assumption) | assumption)) (Nat.le_trans (Nat.mul_le_mul_right _ (qq (by first | (with_reducible assumption) | assumption) : (x3_2.length : Int).toNat ≤ 35184372088832)) (by omega)) (qaj _ _) (Nat.le_refl _) ?_; intro v174 w27 ho28 hb hg_ hnew_; clear hg_ hnew_; (first | rw [← Ny173.out] at ho28 | (simp only [Int.reduceToNat] at ho28; rw [← Ny173.out] at ho28)); have n0_ := qo (Kd.R_elder' (by (with_reducible repeat (first | apply qh | apply qg | apply qi)); exact HO_3.out) (by first | exact Kd.N_base ho28 | exact Kd.S_base ho28 | exact Kd.R_base ho28 | exact Kd.Q_base ho28) hb); have n1_ := qo (qag (Kd.R_new' ho28 (Kd.R_lt (by (with_reducible repeat (first | apply qh | apply qg | apply qi)); exact HO_3.out))) (qu (by repeat (first | (with_reducible first | exact HB.out | apply qc | apply qb | apply qd | refine qn ?_ GE164.out) | exact HB.out)))); have n2_ := qo (qaa (g := gb164) (o := .cells #[.int .i64 a0_0, .slice A0_1 l0_1.length c0_1, .slice A0_2 l0_2.length c0_2] 26 (0, 0)) (by (with_reducible repeat (first | refine ql ?_ _ | refine qm ?_ | refine qk ?_ _)); exact BK164.out) hb); have n3_ := qo (qt (by repeat (first | (with_reducible first | exact HB.out | apply qc | apply qb | apply qd | refine qn ?_ GE164.out) | exact HB.out)) hb); clear HO_3; clear BK164; clear HB; have HO_3 := n0_; have HO175 := n1_; have BK164 := n2_; have HB := n3_; clear n0_ n1_ n2_ n3_; clear hb ho28)); try go_wp2_with (first | ((with_reducible refine gate_dst (N := 43) rfl ?_); refine Kd.R_make (Kd.int .i64) _ 3 rfl (N := 43) rfl 22 _ _ rfl (x3_2.length : Int) rfl rfl Try.underlying22 (.int .i64 0) 8 info3 rfl (by decide) (by omega) 0 (ok := fun _ => True) (okp := fun _ => True) rfl (fun _ hk => hk) trivial (qq (by first | (with_reducible assumption) | assumption)) (Nat.le_trans (Nat.mul_le_mul_right _ (qq (by first | (with_reducible assumption) | assumption) : (x3_2.length : Int).toNat ≤ 35184372088832)) (by omega)) (qaj _ _) (Nat.le_refl _) ?_; intro v174 w27 ho28 hb hg_ hnew_; clear hg_ hnew_; (first | rw [← Ny173.out] at ho28 | (simp only [Int.reduceToNat] at ho28; rw [← Ny173.out] at ho28)); have n0_ := qo (Kd.R_elder' (by (with_reducible repeat (first | apply qh | apply qg | apply qi)); exact HO_3.out) (by first | exact Kd.N_base ho28 | exact Kd.S_base ho28 | exact Kd.R_base ho28 | exact Kd.Q_base ho28) hb); have n1_ := qo (qag (Kd.R_new' ho28 (Kd.R_lt (by (with_reducible repeat (first | apply qh | apply qg | apply qi)); exact HO_3.out))) (qu (by repeat (first | (with_reducible first | exact HB.out | apply qc | apply qb | apply qd | refine qn ?_ GE164.out) | exact HB.out)))); have n2_ := qo (qaa (g := gb164) (o := .cells #[.int .i64 a0_0, .slice A0_1 l0_1.length c0_1, .slice A0_2 l0_2.length c0_2] 26 (0, 0)) (by (with_reducible repeat (first | refine ql ?_ _ | refine qm ?_ | refine qk ?_ _)); exact BK164.out) hb); have n3_ := qo (qt (by repeat (first | (with_reducible first | exact HB.out | apply qc | apply qb | apply qd | refine qn ?_ GE164.out) | exact HB.out)) hb); clear HO_3; clear BK164; clear HB; have HO_3 := n0_; have HO175 := n1_; have BK164 := n2_; have HB := n3_; clear n0_ n1_ n2_ n3_; clear hb ho28)))
            go_loopg [7, 46] k2 (fun kq v7 v46 w' => ∃ (x6_3 : List Int) (x7_3 : Int) (x46_3 : Int), v7 = .int .i64 x7_3 ∧ v46 = .int .i64 x46_3 ∧ Aside0 (railplanref11_Components.l2 kq x3_2 x6_3 x7_3 (x3_2.length : Int) x46_3 = some r) ∧ Aside0 (kq ≤ k2) ∧ Aside0 (Kd.R (Kd.int .i64) 3 w' w.heap.size (fun k_ => some k_ ≠ (v174 : Value).ownBlock) (.slice Ao12 x3_2.length co12) x3_2) ∧ Aside0 (Kd.R (Kd.int .i64) 3 w' w.heap.size (fun k_ => some k_ ≠ ((.slice Ao12 x3_2.length co12) : Value).ownBlock) v174 x6_3) ∧ Aside0 (w'.heap[gb164]? = some (.cells #[.int .i64 a0_0, (.slice A0_1 l0_1.length c0_1), (.slice A0_2 l0_2.length c0_2)] 26 (0, 0))) ∧ Aside0 (Below w.heap.size w w'))
            case atStart => exact ⟨(y173), (0), (0), (by first | rfl | (simp; done) | (simp [*]; done)), (by first | rfl | (simp; done) | (simp [*]; done)), H', ⟨Nat.le_refl _⟩, ⟨by (try simp only [hl3_1]); (try simp only [hl3_2]); (with_reducible repeat (first | apply qh | apply qg | apply qi)); exact qy HO_3.out (fun _ hk => hk.2)⟩, ⟨by (try simp only [hl3_1]); (try simp only [hl3_2]); (with_reducible repeat (first | apply qh | apply qg | apply qi)); exact qy HO175.out (fun _ hk => hk.2)⟩, ⟨by (try simp only [hl3_1]); (try simp only [hl3_2]); (with_reducible repeat (first | refine ql ?_ _ | refine qm ?_ | refine qk ?_ _)); exact BK164.out⟩, ⟨by repeat (first | (with_reducible first | exact HB.out | apply qc | apply qb | apply qd | refine qn ?_ GE164.out) | exact HB.out)⟩⟩
            case round =>
             clear H'
             try clear c1
             try clear p1
             try clear q1
             try clear hx1
             try clear hf1
             try clear c2
             try clear p2
             try clear c3
             try clear c4
             try clear c4b0
             try clear c4b1
             try clear c5
             try clear c5b0
             try clear c5b1
             try clear p6
             try clear c13
             try clear c13b0
             try clear c14
             try clear c14b0
             try clear c15
             try clear c15b0
             try clear p16
             try clear q16
             try clear hx16
             try clear hf16
             try clear p17
             try clear q17
             try clear hx17
             try clear c19
             try clear c19b0
             try clear c20
             try clear c20b0
             try clear c24
             try clear c24b0
             try clear c24b1
             try clear c25
             try clear c25b0
             try clear c25b1
             try clear hcz22_0
             try clear hcz22_1
             try clear hcz22_2
             try clear hcz26_0
             try clear hcz26_1
             try clear hcz26_2
             try clear hcz7_0
             try clear hcz7_1
             try clear hcz7_2
             try clear hcz9_0
             try clear hcz9_1
             try clear hcz9_2
             try clear hfz22_0
             try clear hfz22_1
             try clear hfz22_2
             try clear hfz26_0
             try clear hfz26_1
             try clear hfz26_2
             try clear hfz7_0
             try clear hfz7_1
             try clear hfz7_2
             try clear hfz9_0
             try clear hfz9_1
             try clear hfz9_2
             try clear hx16_0
             try clear hx170_0
             try clear hx170_1
             try clear hx170_2
             try clear hx170_3
             try clear hx170_4
             try clear hx170_5
             try clear p1
             try clear p16
             try clear p170
             try clear p2
             try clear p6
             try clear q1
             try clear q16
             try clear q170
             obtain ⟨x6_3, x7_3, x46_3, rfl, rfl, HA, HK3, HO_3, HO_6, BK164, HB⟩ := hrel
             cases gk with
             | zero => exact absurd HA.out (by simp [railplanref11_Components.l2])
             | succ k3 =>
              have H := HA.out
              clear HA
              simp only [railplanref11_Components.l2] at H
              by_cases c29 : x46_3 < (x3_2.length : Int)
              ·rw [if_pos c29] at H
               have c29b0 : decide (x46_3 < (x3_2.length : Int)) = true := qac c29
               (try (have c29b9_0 := c29b0; simp only [hl3_1] at c29b9_0))
               (try (have c29b9_1 := c29b0; simp only [hl3_2] at c29b9_1))
               clear c29
               by_cases c30 : 0 ≤ x46_3
               ·rw [if_pos c30] at H
                have c30b0 : decide (0 ≤ x46_3) = true := qac c30
                clear c30
                by_cases c31 : x46_3 < (x6_3.length : Int)
                ·rw [if_pos c31] at H
                 have c31b0 : decide (x46_3 < (x6_3.length : Int)) = true := qac c31
                 (try (have c31b9_0 := c31b0; simp only [hl3_1] at c31b9_0))
                 (try (have c31b9_1 := c31b0; simp only [hl3_2] at c31b9_1))
                 clear c31
                 obtain ⟨y176, hy176⟩ : ∃ y_ : List Int, y_ = (x6_3.set (x46_3 : Int).toNat (-1)) := ⟨_, rfl⟩
                 replace H : (railplanref11_Components.l3 k3 x3_2 y176 x7_3 x46_3 0 (x3_2.length : Int) x46_3) = some r := by first | (rw [hy176]; with_reducible exact H) | (have H2_ := (Option.bind_some _ _).symm.trans H; rw [hy176]; with_reducible exact H2_) | (have H2_ := (Option.bind_some _ _).symm.trans H; with_reducible exact H2_) | with_reducible exact H | (rw [hy176]; exact H) | exact H
                 have Ny176 := qo hy176
                 clear hy176
                 have H' := qo H
                 clear H
                 have p32 : 0 ≤ (x46_3 : Int) := qq (by first | (with_reducible assumption) | assumption)
                 have q32 : (x46_3 : Int) < ((x6_3.length : Int) : Int) := qq (by first | (with_reducible assumption) | assumption)
                 obtain ⟨go32, co32, eo32, gb32, gl32, cl32, HG32⟩ := Kd.R_form HO_6.out (by first | omega | (have e_ := (qr HO_6.out).1; omega))
                 (first | cases eo32 | (injection eo32 with ea_ en_ ec_; (first | subst ea_ | (injection ea_ with ea_; subst ea_)); subst ec_; clear en_))
                 have GB32 := qo gb32
                 have GG32 := qo HG32
                 clear gb32 gl32 HG32
                 obtain ⟨hx32_0, hf32_0⟩ := Kd.R_celln 0 HO_6.out (x46_3 : Int) p32 q32
                 replace p32 := eq_true p32
                 replace q32 := eq_true q32
                 have HP33 := Kd.R_putg HO_6.out (x46_3 : Int) (-1)
                 go_wp2_with (first | ((with_reducible refine gate_store (t := 3) (p := 51) rfl ?_); (try (rw [drewN_self wr]; generalize hq_ : World.drewN wr _ = wr; have n0_ := qo (qan hq_ HO_3.out); have n1_ := qo (qan hq_ HO_6.out); have n2_ := qo (qai hq_ BK164.out); have n3_ := qo (qah hq_ HB.out); clear hq_ HO_3 HO_6 BK164 HB; have HO_3 := n0_; have HO_6 := n1_; have BK164 := n2_; have HB := n3_; clear n0_ n1_ n2_ n3_; (try (obtain ⟨hxq_, hfq_⟩ := Kd.R_celln 0 HO_6.out (x46_3 : Int) (of_eq_true p32) (of_eq_true q32))); (try (have HP33 := Kd.R_putg HO_6.out (x46_3 : Int) (-1))))); refine store_event (t := 3) (p := 51) (v := ?vo_w34) (w1 := (wr.setCell ⟨go32, (x46_3 : Int).toNat, none⟩ (.int .i64 (-1)))) ?hg ?ho ?hn ?hr ?_; (case ho => rfl); (case hg => rfl); (case hn => rfl); (case hr => first | (go_simp; done) | (go_simp; rfl)); intro w34 hw; have hg : wr.grownBy w34 (some go32) := (by rw [hw]; exact HP33.2); have hp_ : Kd.R (Kd.int .i64) 3 w34 w.heap.size (fun k_ => some k_ ≠ (.slice Ao12 x3_2.length co12 : Value).ownBlock) (.slice (some ⟨go32, 0, none⟩) x6_3.length co32) y176 := (by rw [hw, Ny176.out]; exact HP33.1); clear HP33; have n0_ := qo (Kd.R_after (v := (.slice (some ⟨go32, 0, none⟩) x6_3.length co32)) (v1 := (.slice (some ⟨go32, 0, none⟩) x6_3.length co32)) (ok := (fun _ => True)) (by (with_reducible repeat (first | apply qh | apply qg | apply qi)); exact qy HO_3.out (fun _ hk => ⟨trivial, hk⟩)) hg (.inl rfl)); have n1_ := qo (hp_); have n2_ := qo (blk_grown (g := gb164) (o := .cells #[.int .i64 a0_0, .slice A0_1 l0_1.length c0_1, .slice A0_2 l0_2.length c0_2] 26 (0, 0)) (by (with_reducible repeat (first | refine ql ?_ _ | refine qm ?_ | refine qk ?_ _)); exact BK164.out) hg (Kd.R_ne HO_6.out BK164.out (by decide))); have n3_ := qo ((by rw [hw]; exact qn (HB.out) GB32.out : Below w.heap.size w w34)); clear HO_3; clear HO_6; clear BK164; clear HB; have HO_3 := n0_; have HO_6 := n1_; have BK164 := n2_; have HB := n3_; clear n0_ n1_ n2_ n3_; clear hg hw hp_))
                 repeat (go_quiet (first | ((with_reducible refine gate_store (t := 3) (p := 51) rfl ?_); (try (rw [drewN_self wr]; generalize hq_ : World.drewN wr _ = wr; have n0_ := qo (qan hq_ HO_3.out); have n1_ := qo (qan hq_ HO_6.out); have n2_ := qo (qai hq_ BK164.out); have n3_ := qo (qah hq_ HB.out); clear hq_ HO_3 HO_6 BK164 HB; have HO_3 := n0_; have HO_6 := n1_; have BK164 := n2_; have HB := n3_; clear n0_ n1_ n2_ n3_; (try (obtain ⟨hxq_, hfq_⟩ := Kd.R_celln 0 HO_6.out (x46_3 : Int) (of_eq_true p32) (of_eq_true q32))); (try (have HP33 := Kd.R_putg HO_6.out (x46_3 : Int) (-1))))); refine store_event (t := 3) (p := 51) (v := ?vo_w34) (w1 := (wr.setCell ⟨go32, (x46_3 : Int).toNat, none⟩ (.int .i64 (-1)))) ?hg ?ho ?hn ?hr ?_; (case ho => rfl); (case hg => rfl); (case hn => rfl); (case hr => first | (go_simp; done) | (go_simp; rfl)); intro w34 hw; have hg : wr.grownBy w34 (some go32) := (by rw [hw]; exact HP33.2); have hp_ : Kd.R (Kd.int .i64) 3 w34 w.heap.size (fun k_ => some k_ ≠ (.slice Ao12 x3_2.length co12 : Value).ownBlock) (.slice (some ⟨go32, 0, none⟩) x6_3.length co32) y176 := (by rw [hw, Ny176.out]; exact HP33.1); clear HP33; have n0_ := qo (Kd.R_after (v := (.slice (some ⟨go32, 0, none⟩) x6_3.length co32)) (v1 := (.slice (some ⟨go32, 0, none⟩) x6_3.length co32)) (ok := (fun _ => True)) (by (with_reducible repeat (first | apply qh | apply qg | apply qi)); exact qy HO_3.out (fun _ hk => ⟨trivial, hk⟩)) hg (.inl rfl)); have n1_ := qo (hp_); have n2_ := qo (blk_grown (g := gb164) (o := .cells #[.int .i64 a0_0, .slice A0_1 l0_1.length c0_1, .slice A0_2 l0_2.length c0_2] 26 (0, 0)) (by (with_reducible repeat (first | refine ql ?_ _ | refine qm ?_ | refine qk ?_ _)); exact BK164.out) hg (Kd.R_ne HO_6.out BK164.out (by decide))); have n3_ := qo ((by rw [hw]; exact qn (HB.out) GB32.out : Below w.heap.size w w34)); clear HO_3; clear HO_6; clear BK164; clear HB; have HO_3 := n0_; have HO_6 := n1_; have BK164 := n2_; have HB := n3_; clear n0_ n1_ n2_ n3_; clear hg hw hp_)); try go_wp2_with (first | ((with_reducible refine gate_store (t := 3) (p := 51) rfl ?_); (try (rw [drewN_self wr]; generalize hq_ : World.drewN wr _ = wr; have n0_ := qo (qan hq_ HO_3.out); have n1_ := qo (qan hq_ HO_6.out); have n2_ := qo (qai hq_ BK164.out); have n3_ := qo (qah hq_ HB.out); clear hq_ HO_3 HO_6 BK164 HB; have HO_3 := n0_; have HO_6 := n1_; have BK164 := n2_; have HB := n3_; clear n0_ n1_ n2_ n3_; (try (obtain ⟨hxq_, hfq_⟩ := Kd.R_celln 0 HO_6.out (x46_3 : Int) (of_eq_true p32) (of_eq_true q32))); (try (have HP33 := Kd.R_putg HO_6.out (x46_3 : Int) (-1))))); refine store_event (t := 3) (p := 51) (v := ?vo_w34) (w1 := (wr.setCell ⟨go32, (x46_3 : Int).toNat, none⟩ (.int .i64 (-1)))) ?hg ?ho ?hn ?hr ?_; (case ho => rfl); (case hg => rfl); (case hn => rfl); (case hr => first | (go_simp; done) | (go_simp; rfl)); intro w34 hw; have hg : wr.grownBy w34 (some go32) := (by rw [hw]; exact HP33.2); have hp_ : Kd.R (Kd.int .i64) 3 w34 w.heap.size (fun k_ => some k_ ≠ (.slice Ao12 x3_2.length co12 : Value).ownBlock) (.slice (some ⟨go32, 0, none⟩) x6_3.length co32) y176 := (by rw [hw, Ny176.out]; exact HP33.1); clear HP33; have n0_ := qo (Kd.R_after (v := (.slice (some ⟨go32, 0, none⟩) x6_3.length co32)) (v1 := (.slice (some ⟨go32, 0, none⟩) x6_3.length co32)) (ok := (fun _ => True)) (by (with_reducible repeat (first | apply qh | apply qg | apply qi)); exact qy HO_3.out (fun _ hk => ⟨trivial, hk⟩)) hg (.inl rfl)); have n1_ := qo (hp_); have n2_ := qo (blk_grown (g := gb164) (o := .cells #[.int .i64 a0_0, .slice A0_1 l0_1.length c0_1, .slice A0_2 l0_2.length c0_2] 26 (0, 0)) (by (with_reducible repeat (first | refine ql ?_ _ | refine qm ?_ | refine qk ?_ _)); exact BK164.out) hg (Kd.R_ne HO_6.out BK164.out (by decide))); have n3_ := qo ((by rw [hw]; exact qn (HB.out) GB32.out : Below w.heap.size w w34)); clear HO_3; clear HO_6; clear BK164; clear HB; have HO_3 := n0_; have HO_6 := n1_; have BK164 := n2_; have HB := n3_; clear n0_ n1_ n2_ n3_; clear hg hw hp_)))
                 go_loopg [9] k3 (fun kq v9 w' => ∃ (x6_4 : List Int) (x9_4 : Int), v9 = .int .i64 x9_4 ∧ Aside0 (railplanref11_Components.l3 kq x3_2 x6_4 x7_3 x46_3 x9_4 (x3_2.length : Int) x46_3 = some r) ∧ Aside0 (kq ≤ k3) ∧ Aside0 (Kd.R (Kd.int .i64) 3 w' w.heap.size (fun k_ => some k_ ≠ ((.slice (some ⟨go32, 0, none⟩) x6_3.length co32) : Value).ownBlock) (.slice Ao12 x3_2.length co12) x3_2) ∧ Aside0 (Kd.R (Kd.int .i64) 3 w' w.heap.size (fun k_ => some k_ ≠ ((.slice Ao12 x3_2.length co12) : Value).ownBlock) (.slice (some ⟨go32, 0, none⟩) x6_3.length co32) x6_4) ∧ Aside0 (w'.heap[gb164]? = some (.cells #[.int .i64 a0_0, (.slice A0_1 l0_1.length c0_1), (.slice A0_2 l0_2.length c0_2)] 26 (0, 0))) ∧ Aside0 (Below w.heap.size w w'))
                 case atStart => exact ⟨(y176), (0), (by first | rfl | (simp; done) | (simp [*]; done)), H', ⟨Nat.le_refl _⟩, ⟨by (try simp only [hl3_1]); (try simp only [hl3_2]); (with_reducible repeat (first | apply qh | apply qg | apply qi)); exact qy HO_3.out (fun _ hk => hk.2)⟩, ⟨by (try simp only [hl3_1]); (try simp only [hl3_2]); (with_reducible repeat (first | apply qh | apply qg | apply qi)); exact HO_6.out⟩, ⟨by (try simp only [hl3_1]); (try simp only [hl3_2]); (with_reducible repeat (first | refine ql ?_ _ | refine qm ?_ | refine qk ?_ _)); exact BK164.out⟩, ⟨by repeat (first | (with_reducible first | exact HB.out | apply qc | apply qb | apply qd | refine qn ?_ GE164.out) | exact HB.out)⟩⟩
                 case round =>
                  clear H'
                  try clear c1
                  try clear p1
                  try clear q1
                  try clear hx1
                  try clear hf1
                  try clear c2
                  try clear p2
                  try clear c3
                  try clear p3
                  try clear q3
                  try clear hx3
                  try clear hf3
                  try clear c4
                  try clear c4b0
                  try clear c4b1
                  try clear c5
                  try clear c5b0
                  try clear c5b1
                  try clear p6
                  try clear c13
                  try clear c13b0
                  try clear c14
                  try clear c14b0
                  try clear c15
                  try clear c15b0
                  try clear p16
                  try clear q16
                  try clear hx16
                  try clear hf16
                  try clear p17
                  try clear q17
                  try clear hx17
                  try clear c19
                  try clear c19b0
                  try clear c20
                  try clear c20b0
                  try clear c24
                  try clear c24b0
                  try clear c24b1
                  try clear c25
                  try clear c25b0
                  try clear c25b1
                  try clear c29
                  try clear c29b0
                  try clear c30
                  try clear c30b0
                  try clear c31
                  try clear c31b0
                  try clear p32
                  try clear q32
                  try clear hx32
                  try clear hf32
                  try clear hcz22_0
                  try clear hcz22_1
                  try clear hcz22_2
                  try clear hcz26_0
                  try clear hcz26_1
                  try clear hcz26_2
                  try clear hcz7_0
                  try clear hcz7_1
                  try clear hcz7_2
                  try clear hcz9_0
                  try clear hcz9_1
                  try clear hcz9_2
                  try clear hfz22_0
                  try clear hfz22_1
                  try clear hfz22_2
                  try clear hfz26_0
                  try clear hfz26_1
                  try clear hfz26_2
                  try clear hfz7_0
                  try clear hfz7_1
                  try clear hfz7_2
                  try clear hfz9_0
                  try clear hfz9_1
                  try clear hfz9_2
                  try clear hx16_0
                  try clear hx170_0
                  try clear hx170_1
                  try clear hx170_2
                  try clear hx170_3
                  try clear hx170_4
                  try clear hx170_5
                  try clear hx32_0
                  try clear p1
                  try clear p16
                  try clear p17
                  try clear p170
                  try clear p2
                  try clear p32
                  try clear p6
                  try clear q1
                  try clear q16
                  try clear q17
                  try clear q170
                  try clear q32
                  obtain ⟨x6_4, x9_4, rfl, HA, HK4, HO_3, HO_6, BK164, HB⟩ := hrel
                  have hl6_4 := (qr HO_6.out).1
                  rw [hl6_4] at HO_6
                  (try simp only [hl6_4])
                  (try simp only [hl6_4] at BK164)
                  (try simp only [hl6_4] at HO_3)
                  cases gk with
                  | zero => exact absurd HA.out (by simp [railplanref11_Components.l3])
                  | succ k4 =>
                   have H := HA.out
                   clear HA
                   simp only [railplanref11_Components.l3] at H
                   by_cases c35 : x9_4 < x46_3
                   ·rw [if_pos c35] at H
                    have c35b0 : decide (x9_4 < x46_3) = true := qac c35
                    clear c35
                    by_cases c36 : 0 ≤ x9_4
                    ·rw [if_pos c36] at H
                     have c36b0 : decide (0 ≤ x9_4) = true := qac c36
                     clear c36
                     by_cases c37 : x9_4 < (x3_2.length : Int)
                     ·rw [if_pos c37] at H
                      have c37b0 : decide (x9_4 < (x3_2.length : Int)) = true := qac c37
                      (try (have c37b9_0 := c37b0; simp only [hl3_1] at c37b9_0))
                      (try (have c37b9_1 := c37b0; simp only [hl3_2] at c37b9_1))
                      (try (have c37b9_2 := c37b0; simp only [hl6_4] at c37b9_2))
                      clear c37
                      by_cases c38 : 0 ≤ x46_3
                      ·rw [if_pos c38] at H
                       have c38b0 : decide (0 ≤ x46_3) = true := qac c38
                       clear c38
                       by_cases c39 : x46_3 < (x3_2.length : Int)
                       ·rw [if_pos c39] at H
                        have c39b0 : decide (x46_3 < (x3_2.length : Int)) = true := qac c39
                        (try (have c39b9_0 := c39b0; simp only [hl3_1] at c39b9_0))
                        (try (have c39b9_1 := c39b0; simp only [hl3_2] at c39b9_1))
                        (try (have c39b9_2 := c39b0; simp only [hl6_4] at c39b9_2))
                        clear c39
                        by_cases c40 : (rd x3_2 x9_4) = (rd x3_2 x46_3)
                        ·rw [if_pos c40] at H
                         have c40b0 : ((rd x3_2 x9_4) == (rd x3_2 x46_3)) = true := beq_iff_eq.mpr c40
                         have c40b1 : ((rd x3_2 x9_4) != (rd x3_2 x46_3)) = false := bne_eq_false_iff_eq.mpr c40
                         clear c40
                         by_cases c41 : x9_4 < (x6_4.length : Int)
                         ·rw [if_pos c41] at H
                          have c41b0 : decide (x9_4 < (x6_4.length : Int)) = true := qac c41
                          (try (have c41b9_0 := c41b0; simp only [hl3_1] at c41b9_0))
                          (try (have c41b9_1 := c41b0; simp only [hl3_2] at c41b9_1))
                          (try (have c41b9_2 := c41b0; simp only [hl6_4] at c41b9_2))
                          clear c41
                          by_cases c42 : x46_3 < (x6_4.length : Int)
                          ·rw [if_pos c42] at H
                           have c42b0 : decide (x46_3 < (x6_4.length : Int)) = true := qac c42
                           (try (have c42b9_0 := c42b0; simp only [hl3_1] at c42b9_0))
                           (try (have c42b9_1 := c42b0; simp only [hl3_2] at c42b9_1))
                           (try (have c42b9_2 := c42b0; simp only [hl6_4] at c42b9_2))
                           clear c42
                           obtain ⟨y180, hy180⟩ : ∃ y_ : List Int, y_ = (x6_4.set (x46_3 : Int).toNat (rd x6_4 x9_4)) := ⟨_, rfl⟩
                           replace H : (railplanref11_Components.l3 k4 x3_2 y180 x7_3 x46_3 (wrap64 (x9_4 + 1)) (x3_2.length : Int) x46_3) = some r := by first | (rw [hy180]; with_reducible exact H) | (have H2_ := (Option.bind_some _ _).symm.trans H; rw [hy180]; with_reducible exact H2_) | (have H2_ := (Option.bind_some _ _).symm.trans H; with_reducible exact H2_) | with_reducible exact H | (rw [hy180]; exact H) | exact H
                           have Ny180 := qo hy180
                           clear hy180
                           have H' := qo H
                           clear H
                           have p177 : 0 ≤ (x9_4 : Int) := qq (by first | (with_reducible assumption) | assumption)
                           have q177 : x9_4 < (x3_2.length : Int) := qq (by first | (with_reducible assumption) | assumption)
                           obtain ⟨ad177, e177, hx177_0⟩ := Kd.at_int (qr HO_3.out).2.2 x9_4 p177 q177
                           cases e177
                           replace p177 := eq_true p177
                           replace q177 := eq_true q177
                           have p178 : 0 ≤ (x46_3 : Int) := qq (by first | (with_reducible assumption) | assumption)
                           have q178 : x46_3 < (x3_2.length : Int) := qq (by first | (with_reducible assumption) | assumption)
                           obtain ⟨ad178, e178, hx178_0⟩ := Kd.at_int (qr HO_3.out).2.2 x46_3 p178 q178
                           obtain rfl : ad177 = ad178 := (by injection e178)
                           replace p178 := eq_true p178
                           replace q178 := eq_true q178
                           have p179 : 0 ≤ (x9_4 : Int) := qq (by first | (with_reducible assumption) | assumption)
                           have q179 : x9_4 < (x6_4.length : Int) := qq (by first | (with_reducible assumption) | assumption)
                           obtain ⟨ad179, e179, hx179_0⟩ := Kd.at_int (qr HO_6.out).2.2 x9_4 p179 q179
                           obtain rfl : (⟨go32, 0, none⟩ : Addr) = ad179 := (by injection e179)
                           (first | simp only [add_plain] at hx179_0 | simp only [add_at] at hx179_0 | simp only [Addr.add, Nat.zero_add] at hx179_0 | skip)
                           replace p179 := eq_true p179
                           replace q179 := eq_true q179
                           have p43 : 0 ≤ (x46_3 : Int) := qq (by first | (with_reducible assumption) | assumption)
                           have q43 : (x46_3 : Int) < ((x6_4.length : Int) : Int) := qq (by first | (with_reducible assumption) | assumption)
                           obtain ⟨hx43_0, hf43_0⟩ := Kd.R_celln 0 HO_6.out (x46_3 : Int) p43 q43
                           replace p43 := eq_true p43
                           replace q43 := eq_true q43
                           have HP44 := Kd.R_putg HO_6.out (x46_3 : Int) (rd x6_4 x9_4)
                           go_wp2_with (first | ((with_reducible refine gate_store (t := 3) (p := 72) rfl ?_); (try (rw [drewN_self wr]; generalize hq_ : World.drewN wr _ = wr; have n0_ := qo (qan hq_ HO_3.out); have n1_ := qo (qan hq_ HO_6.out); have n2_ := qo (qai hq_ BK164.out); have n3_ := qo (qah hq_ HB.out); clear hq_ HO_3 HO_6 BK164 HB; have HO_3 := n0_; have HO_6 := n1_; have BK164 := n2_; have HB := n3_; clear n0_ n1_ n2_ n3_; (try (obtain ⟨hxq_, hfq_⟩ := Kd.R_celln 0 HO_6.out (x46_3 : Int) (of_eq_true p43) (of_eq_true q43))); (try (have HP44 := Kd.R_putg HO_6.out (x46_3 : Int) (rd x6_4 x9_4))))); refine store_event (t := 3) (p := 72) (v := ?vo_w45) (w1 := (wr.setCell ⟨go32, (x46_3 : Int).toNat, none⟩ (.int .i64 (rd x6_4 x9_4)))) ?hg ?ho ?hn ?hr ?_; (case ho => rfl); (case hg => rfl); (case hn => rfl); (case hr => first | (go_simp; done) | (go_simp; rfl)); intro w45 hw; have hg : wr.grownBy w45 (some go32) := (by rw [hw]; exact HP44.2); have hp_ : Kd.R (Kd.int .i64) 3 w45 w.heap.size (fun k_ => some k_ ≠ (.slice (some ad177) x3_2.length co12 : Value).ownBlock) (.slice (some ⟨go32, 0, none⟩) x6_4.length co32) y180 := (by rw [hw, Ny180.out]; exact HP44.1); clear HP44; have n0_ := qo (Kd.R_after (v := (.slice (some ⟨go32, 0, none⟩) x6_4.length co32)) (v1 := (.slice (some ⟨go32, 0, none⟩) x6_4.length co32)) (ok := (fun _ => True)) (by (with_reducible repeat (first | apply qh | apply qg | apply qi)); exact qy HO_3.out (fun _ hk => ⟨trivial, hk⟩)) hg (.inl rfl)); have n1_ := qo (hp_); have n2_ := qo (blk_grown (g := gb164) (o := .cells #[.int .i64 a0_0, .slice A0_1 l0_1.length c0_1, .slice A0_2 l0_2.length c0_2] 26 (0, 0)) (by (with_reducible repeat (first | refine ql ?_ _ | refine qm ?_ | refine qk ?_ _)); exact BK164.out) hg (Kd.R_ne HO_6.out BK164.out (by decide))); have n3_ := qo ((by rw [hw]; exact qn (HB.out) GB32.out : Below w.heap.size w w45)); clear HO_3; clear HO_6; clear BK164; clear HB; have HO_3 := n0_; have HO_6 := n1_; have BK164 := n2_; have HB := n3_; clear n0_ n1_ n2_ n3_; clear hg hw hp_))
                           repeat (go_quiet (first | ((with_reducible refine gate_store (t := 3) (p := 72) rfl ?_); (try (rw [drewN_self wr]; generalize hq_ : World.drewN wr _ = wr; have n0_ := qo (qan hq_ HO_3.out); have n1_ := qo (qan hq_ HO_6.out); have n2_ := qo (qai hq_ BK164.out); have n3_ := qo (qah hq_ HB.out); clear hq_ HO_3 HO_6 BK164 HB; have HO_3 := n0_; have HO_6 := n1_; have BK164 := n2_; have HB := n3_; clear n0_ n1_ n2_ n3_; (try (obtain ⟨hxq_, hfq_⟩ := Kd.R_celln 0 HO_6.out (x46_3 : Int) (of_eq_true p43) (of_eq_true q43))); (try (have HP44 := Kd.R_putg HO_6.out (x46_3 : Int) (rd x6_4 x9_4))))); refine store_event (t := 3) (p := 72) (v := ?vo_w45) (w1 := (wr.setCell ⟨go32, (x46_3 : Int).toNat, none⟩ (.int .i64 (rd x6_4 x9_4)))) ?hg ?ho ?hn ?hr ?_; (case ho => rfl); (case hg => rfl); (case hn => rfl); (case hr => first | (go_simp; done) | (go_simp; rfl)); intro w45 hw; have hg : wr.grownBy w45 (some go32) := (by rw [hw]; exact HP44.2); have hp_ : Kd.R (Kd.int .i64) 3 w45 w.heap.size (fun k_ => some k_ ≠ (.slice (some ad177) x3_2.length co12 : Value).ownBlock) (.slice (some ⟨go32, 0, none⟩) x6_4.length co32) y180 := (by rw [hw, Ny180.out]; exact HP44.1); clear HP44; have n0_ := qo (Kd.R_after (v := (.slice (some ⟨go32, 0, none⟩) x6_4.length co32)) (v1 := (.slice (some ⟨go32, 0, none⟩) x6_4.length co32)) (ok := (fun _ => True)) (by (with_reducible repeat (first | apply qh | apply qg | apply qi)); exact qy HO_3.out (fun _ hk => ⟨trivial, hk⟩)) hg (.inl rfl)); have n1_ := qo (hp_); have n2_ := qo (blk_grown (g := gb164) (o := .cells #[.int .i64 a0_0, .slice A0_1 l0_1.length c0_1, .slice A0_2 l0_2.length c0_2] 26 (0, 0)) (by (with_reducible repeat (first | refine ql ?_ _ | refine qm ?_ | refine qk ?_ _)); exact BK164.out) hg (Kd.R_ne HO_6.out BK164.out (by decide))); have n3_ := qo ((by rw [hw]; exact qn (HB.out) GB32.out : Below w.heap.size w w45)); clear HO_3; clear HO_6; clear BK164; clear HB; have HO_3 := n0_; have HO_6 := n1_; have BK164 := n2_; have HB := n3_; clear n0_ n1_ n2_ n3_; clear hg hw hp_)); try go_wp2_with (first | ((with_reducible refine gate_store (t := 3) (p := 72) rfl ?_); (try (rw [drewN_self wr]; generalize hq_ : World.drewN wr _ = wr; have n0_ := qo (qan hq_ HO_3.out); have n1_ := qo (qan hq_ HO_6.out); have n2_ := qo (qai hq_ BK164.out); have n3_ := qo (qah hq_ HB.out); clear hq_ HO_3 HO_6 BK164 HB; have HO_3 := n0_; have HO_6 := n1_; have BK164 := n2_; have HB := n3_; clear n0_ n1_ n2_ n3_; (try (obtain ⟨hxq_, hfq_⟩ := Kd.R_celln 0 HO_6.out (x46_3 : Int) (of_eq_true p43) (of_eq_true q43))); (try (have HP44 := Kd.R_putg HO_6.out (x46_3 : Int) (rd x6_4 x9_4))))); refine store_event (t := 3) (p := 72) (v := ?vo_w45) (w1 := (wr.setCell ⟨go32, (x46_3 : Int).toNat, none⟩ (.int .i64 (rd x6_4 x9_4)))) ?hg ?ho ?hn ?hr ?_; (case ho => rfl); (case hg => rfl); (case hn => rfl); (case hr => first | (go_simp; done) | (go_simp; rfl)); intro w45 hw; have hg : wr.grownBy w45 (some go32) := (by rw [hw]; exact HP44.2); have hp_ : Kd.R (Kd.int .i64) 3 w45 w.heap.size (fun k_ => some k_ ≠ (.slice (some ad177) x3_2.length co12 : Value).ownBlock) (.slice (some ⟨go32, 0, none⟩) x6_4.length co32) y180 := (by rw [hw, Ny180.out]; exact HP44.1); clear HP44; have n0_ := qo (Kd.R_after (v := (.slice (some ⟨go32, 0, none⟩) x6_4.length co32)) (v1 := (.slice (some ⟨go32, 0, none⟩) x6_4.length co32)) (ok := (fun _ => True)) (by (with_reducible repeat (first | apply qh | apply qg | apply qi)); exact qy HO_3.out (fun _ hk => ⟨trivial, hk⟩)) hg (.inl rfl)); have n1_ := qo (hp_); have n2_ := qo (blk_grown (g := gb164) (o := .cells #[.int .i64 a0_0, .slice A0_1 l0_1.length c0_1, .slice A0_2 l0_2.length c0_2] 26 (0, 0)) (by (with_reducible repeat (first | refine ql ?_ _ | refine qm ?_ | refine qk ?_ _)); exact BK164.out) hg (Kd.R_ne HO_6.out BK164.out (by decide))); have n3_ := qo ((by rw [hw]; exact qn (HB.out) GB32.out : Below w.heap.size w w45)); clear HO_3; clear HO_6; clear BK164; clear HB; have HO_3 := n0_; have HO_6 := n1_; have BK164 := n2_; have HB := n3_; clear n0_ n1_ n2_ n3_; clear hg hw hp_)))
                           (try simp only [← hl6_4])
                           go_roundg k4
                           case measure => have := HK1.out; have := HK2.out; have := HK3.out; have := HK4.out; omega
                           case rel => exact ⟨(y180), (wrap64 (x9_4 + 1)), (by first | rfl | (simp; done) | (simp [*]; done)), H', ⟨by have := HK1.out; have := HK2.out; have := HK3.out; have := HK4.out; omega⟩, ⟨by (try simp only [hl3_1]); (try simp only [hl3_2]); (try simp only [hl6_4]); (with_reducible repeat (first | apply qh | apply qg | apply qi)); exact qy HO_3.out (fun _ hk => hk.2)⟩, ⟨by (try simp only [hl3_1]); (try simp only [hl3_2]); (try simp only [hl6_4]); (with_reducible repeat (first | apply qh | apply qg | apply qi)); exact HO_6.out⟩, ⟨by (try simp only [hl3_1]); (try simp only [hl3_2]); (try simp only [hl6_4]); (with_reducible repeat (first | refine ql ?_ _ | refine qm ?_ | refine qk ?_ _)); exact BK164.out⟩, ⟨by repeat (first | (with_reducible first | exact HB.out | apply qc | apply qb | apply qd | refine qn ?_ GE164.out) | exact HB.out)⟩⟩
                          ·rw [if_neg c42] at H
                           exact absurd H (by simp)
                         ·rw [if_neg c41] at H
                          exact absurd H (by simp)
                        ·rw [if_neg c40] at H
                         have c40b0 : ((rd x3_2 x9_4) == (rd x3_2 x46_3)) = false := beq_eq_false_iff_ne.mpr c40
                         have c40b1 : ((rd x3_2 x9_4) != (rd x3_2 x46_3)) = true := bne_iff_ne.mpr c40
                         have H' := qo H
                         clear H
                         have p177 : 0 ≤ (x9_4 : Int) := qq (by first | (with_reducible assumption) | assumption)
                         have q177 : x9_4 < (x3_2.length : Int) := qq (by first | (with_reducible assumption) | assumption)
                         obtain ⟨ad177, e177, hx177_0⟩ := Kd.at_int (qr HO_3.out).2.2 x9_4 p177 q177
                         cases e177
                         replace p177 := eq_true p177
                         replace q177 := eq_true q177
                         have p178 : 0 ≤ (x46_3 : Int) := qq (by first | (with_reducible assumption) | assumption)
                         have q178 : x46_3 < (x3_2.length : Int) := qq (by first | (with_reducible assumption) | assumption)
                         obtain ⟨ad178, e178, hx178_0⟩ := Kd.at_int (qr HO_3.out).2.2 x46_3 p178 q178
                         obtain rfl : ad177 = ad178 := (by injection e178)
                         replace p178 := eq_true p178
                         replace q178 := eq_true q178
                         go_wp2
                         repeat (go_quiet (fail); try go_wp2)
                         (try simp only [← hl6_4])
                         go_roundg k4
                         case measure => have := HK1.out; have := HK2.out; have := HK3.out; have := HK4.out; omega
                         case rel => exact ⟨(x6_4), (wrap64 (x9_4 + 1)), (by first | rfl | (simp; done) | (simp [*]; done)), H', ⟨by have := HK1.out; have := HK2.out; have := HK3.out; have := HK4.out; omega⟩, ⟨by (try simp only [hl3_1]); (try simp only [hl3_2]); (try simp only [hl6_4]); (with_reducible repeat (first | apply qh | apply qg | apply qi)); exact HO_3.out⟩, ⟨by (try simp only [hl3_1]); (try simp only [hl3_2]); (try simp only [hl6_4]); (with_reducible repeat (first | apply qh | apply qg | apply qi)); exact HO_6.out⟩, ⟨by (try simp only [hl3_1]); (try simp only [hl3_2]); (try simp only [hl6_4]); (with_reducible repeat (first | refine ql ?_ _ | refine qm ?_ | refine qk ?_ _)); exact BK164.out⟩, ⟨by repeat (first | (with_reducible first | exact HB.out | apply qc | apply qb | apply qd | refine qn ?_ GE164.out) | exact HB.out)⟩⟩
                       ·rw [if_neg c39] at H
                        exact absurd H (by simp)
                      ·rw [if_neg c38] at H
                       exact absurd H (by simp)
                     ·rw [if_neg c37] at H
                      exact absurd H (by simp)
                    ·rw [if_neg c36] at H
                     exact absurd H (by simp)
                   ·rw [if_neg c35] at H
                    have c35b0 : decide (x9_4 < x46_3) = false := qad c35
                    clear c35
                    by_cases c46 : 0 ≤ x46_3
                    ·rw [if_pos c46] at H
                     have c46b0 : decide (0 ≤ x46_3) = true := qac c46
                     clear c46
                     by_cases c47 : x46_3 < (x6_4.length : Int)
                     ·rw [if_pos c47] at H
                      have c47b0 : decide (x46_3 < (x6_4.length : Int)) = true := qac c47
                      (try (have c47b9_0 := c47b0; simp only [hl3_1] at c47b9_0))
                      (try (have c47b9_1 := c47b0; simp only [hl3_2] at c47b9_1))
                      (try (have c47b9_2 := c47b0; simp only [hl6_4] at c47b9_2))
                      clear c47
                      by_cases c48 : (rd x6_4 x46_3) < 0
                      ·rw [if_pos c48] at H
                       have c48b0 : decide ((rd x6_4 x46_3) < 0) = true := qac c48
                       clear c48
                       obtain ⟨y182, hy182⟩ : ∃ y_ : List Int, y_ = (x6_4.set (x46_3 : Int).toNat x7_3) := ⟨_, rfl⟩
                       replace H : (railplanref11_Components.l2 k4 x3_2 y182 (wrap64 (x7_3 + 1)) (x3_2.length : Int) (wrap64 (x46_3 + 1))) = some r := by first | (rw [hy182]; with_reducible exact H) | (have H2_ := (Option.bind_some _ _).symm.trans H; rw [hy182]; with_reducible exact H2_) | (have H2_ := (Option.bind_some _ _).symm.trans H; with_reducible exact H2_) | with_reducible exact H | (rw [hy182]; exact H) | exact H
                       have Ny182 := qo hy182
                       clear hy182
                       have H' := qo H
                       clear H
                       have p181 : 0 ≤ (x46_3 : Int) := qq (by first | (with_reducible assumption) | assumption)
                       have q181 : x46_3 < (x6_4.length : Int) := qq (by first | (with_reducible assumption) | assumption)
                       obtain ⟨ad181, e181, hx181_0⟩ := Kd.at_int (qr HO_6.out).2.2 x46_3 p181 q181
                       obtain rfl : (⟨go32, 0, none⟩ : Addr) = ad181 := (by injection e181)
                       (first | simp only [add_plain] at hx181_0 | simp only [add_at] at hx181_0 | simp only [Addr.add, Nat.zero_add] at hx181_0 | skip)
                       replace p181 := eq_true p181
                       replace q181 := eq_true q181
                       have p49 : 0 ≤ (x46_3 : Int) := qq (by first | (with_reducible assumption) | assumption)
                       have q49 : (x46_3 : Int) < ((x6_4.length : Int) : Int) := qq (by first | (with_reducible assumption) | assumption)
                       obtain ⟨hx49_0, hf49_0⟩ := Kd.R_celln 0 HO_6.out (x46_3 : Int) p49 q49
                       replace p49 := eq_true p49
                       replace q49 := eq_true q49
                       have HP50 := Kd.R_putg HO_6.out (x46_3 : Int) x7_3
                       go_wp2_with (first | ((with_reducible refine gate_store (t := 3) (p := 81) rfl ?_); (try (rw [drewN_self wr]; generalize hq_ : World.drewN wr _ = wr; have n0_ := qo (qan hq_ HO_3.out); have n1_ := qo (qan hq_ HO_6.out); have n2_ := qo (qai hq_ BK164.out); have n3_ := qo (qah hq_ HB.out); clear hq_ HO_3 HO_6 BK164 HB; have HO_3 := n0_; have HO_6 := n1_; have BK164 := n2_; have HB := n3_; clear n0_ n1_ n2_ n3_; (try (obtain ⟨hxq_, hfq_⟩ := Kd.R_celln 0 HO_6.out (x46_3 : Int) (of_eq_true p49) (of_eq_true q49))); (try (have HP50 := Kd.R_putg HO_6.out (x46_3 : Int) x7_3)))); refine store_event (t := 3) (p := 81) (v := ?vo_w51) (w1 := (wr.setCell ⟨go32, (x46_3 : Int).toNat, none⟩ (.int .i64 x7_3))) ?hg ?ho ?hn ?hr ?_; (case ho => rfl); (case hg => rfl); (case hn => rfl); (case hr => first | (go_simp; done) | (go_simp; rfl)); intro w51 hw; have hg : wr.grownBy w51 (some go32) := (by rw [hw]; exact HP50.2); have hp_ : Kd.R (Kd.int .i64) 3 w51 w.heap.size (fun k_ => some k_ ≠ (.slice Ao12 x3_2.length co12 : Value).ownBlock) (.slice (some ⟨go32, 0, none⟩) x6_4.length co32) y182 := (by rw [hw, Ny182.out]; exact HP50.1); clear HP50; have n0_ := qo (Kd.R_after (v := (.slice (some ⟨go32, 0, none⟩) x6_4.length co32)) (v1 := (.slice (some ⟨go32, 0, none⟩) x6_4.length co32)) (ok := (fun _ => True)) (by (with_reducible repeat (first | apply qh | apply qg | apply qi)); exact qy HO_3.out (fun _ hk => ⟨trivial, hk⟩)) hg (.inl rfl)); have n1_ := qo (hp_); have n2_ := qo (blk_grown (g := gb164) (o := .cells #[.int .i64 a0_0, .slice A0_1 l0_1.length c0_1, .slice A0_2 l0_2.length c0_2] 26 (0, 0)) (by (with_reducible repeat (first | refine ql ?_ _ | refine qm ?_ | refine qk ?_ _)); exact BK164.out) hg (Kd.R_ne HO_6.out BK164.out (by decide))); have n3_ := qo ((by rw [hw]; exact qn (HB.out) GB32.out : Below w.heap.size w w51)); clear HO_3; clear HO_6; clear BK164; clear HB; have HO_3 := n0_; have HO_6 := n1_; have BK164 := n2_; have HB := n3_; clear n0_ n1_ n2_ n3_; clear hg hw hp_))
                       repeat (go_quiet (first | ((with_reducible refine gate_store (t := 3) (p := 81) rfl ?_); (try (rw [drewN_self wr]; generalize hq_ : World.drewN wr _ = wr; have n0_ := qo (qan hq_ HO_3.out); have n1_ := qo (qan hq_ HO_6.out); have n2_ := qo (qai hq_ BK164.out); have n3_ := qo (qah hq_ HB.out); clear hq_ HO_3 HO_6 BK164 HB; have HO_3 := n0_; have HO_6 := n1_; have BK164 := n2_; have HB := n3_; clear n0_ n1_ n2_ n3_; (try (obtain ⟨hxq_, hfq_⟩ := Kd.R_celln 0 HO_6.out (x46_3 : Int) (of_eq_true p49) (of_eq_true q49))); (try (have HP50 := Kd.R_putg HO_6.out (x46_3 : Int) x7_3)))); refine store_event (t := 3) (p := 81) (v := ?vo_w51) (w1 := (wr.setCell ⟨go32, (x46_3 : Int).toNat, none⟩ (.int .i64 x7_3))) ?hg ?ho ?hn ?hr ?_; (case ho => rfl); (case hg => rfl); (case hn => rfl); (case hr => first | (go_simp; done) | (go_simp; rfl)); intro w51 hw; have hg : wr.grownBy w51 (some go32) := (by rw [hw]; exact HP50.2); have hp_ : Kd.R (Kd.int .i64) 3 w51 w.heap.size (fun k_ => some k_ ≠ (.slice Ao12 x3_2.length co12 : Value).ownBlock) (.slice (some ⟨go32, 0, none⟩) x6_4.length co32) y182 := (by rw [hw, Ny182.out]; exact HP50.1); clear HP50; have n0_ := qo (Kd.R_after (v := (.slice (some ⟨go32, 0, none⟩) x6_4.length co32)) (v1 := (.slice (some ⟨go32, 0, none⟩) x6_4.length co32)) (ok := (fun _ => True)) (by (with_reducible repeat (first | apply qh | apply qg | apply qi)); exact qy HO_3.out (fun _ hk => ⟨trivial, hk⟩)) hg (.inl rfl)); have n1_ := qo (hp_); have n2_ := qo (blk_grown (g := gb164) (o := .cells #[.int .i64 a0_0, .slice A0_1 l0_1.length c0_1, .slice A0_2 l0_2.length c0_2] 26 (0, 0)) (by (with_reducible repeat (first | refine ql ?_ _ | refine qm ?_ | refine qk ?_ _)); exact BK164.out) hg (Kd.R_ne HO_6.out BK164.out (by decide))); have n3_ := qo ((by rw [hw]; exact qn (HB.out) GB32.out : Below w.heap.size w w51)); clear HO_3; clear HO_6; clear BK164; clear HB; have HO_3 := n0_; have HO_6 := n1_; have BK164 := n2_; have HB := n3_; clear n0_ n1_ n2_ n3_; clear hg hw hp_)); try go_wp2_with (first | ((with_reducible refine gate_store (t := 3) (p := 81) rfl ?_); (try (rw [drewN_self wr]; generalize hq_ : World.drewN wr _ = wr; have n0_ := qo (qan hq_ HO_3.out); have n1_ := qo (qan hq_ HO_6.out); have n2_ := qo (qai hq_ BK164.out); have n3_ := qo (qah hq_ HB.out); clear hq_ HO_3 HO_6 BK164 HB; have HO_3 := n0_; have HO_6 := n1_; have BK164 := n2_; have HB := n3_; clear n0_ n1_ n2_ n3_; (try (obtain ⟨hxq_, hfq_⟩ := Kd.R_celln 0 HO_6.out (x46_3 : Int) (of_eq_true p49) (of_eq_true q49))); (try (have HP50 := Kd.R_putg HO_6.out (x46_3 : Int) x7_3)))); refine store_event (t := 3) (p := 81) (v := ?vo_w51) (w1 := (wr.setCell ⟨go32, (x46_3 : Int).toNat, none⟩ (.int .i64 x7_3))) ?hg ?ho ?hn ?hr ?_; (case ho => rfl); (case hg => rfl); (case hn => rfl); (case hr => first | (go_simp; done) | (go_simp; rfl)); intro w51 hw; have hg : wr.grownBy w51 (some go32) := (by rw [hw]; exact HP50.2); have hp_ : Kd.R (Kd.int .i64) 3 w51 w.heap.size (fun k_ => some k_ ≠ (.slice Ao12 x3_2.length co12 : Value).ownBlock) (.slice (some ⟨go32, 0, none⟩) x6_4.length co32) y182 := (by rw [hw, Ny182.out]; exact HP50.1); clear HP50; have n0_ := qo (Kd.R_after (v := (.slice (some ⟨go32, 0, none⟩) x6_4.length co32)) (v1 := (.slice (some ⟨go32, 0, none⟩) x6_4.length co32)) (ok := (fun _ => True)) (by (with_reducible repeat (first | apply qh | apply qg | apply qi)); exact qy HO_3.out (fun _ hk => ⟨trivial, hk⟩)) hg (.inl rfl)); have n1_ := qo (hp_); have n2_ := qo (blk_grown (g := gb164) (o := .cells #[.int .i64 a0_0, .slice A0_1 l0_1.length c0_1, .slice A0_2 l0_2.length c0_2] 26 (0, 0)) (by (with_reducible repeat (first | refine ql ?_ _ | refine qm ?_ | refine qk ?_ _)); exact BK164.out) hg (Kd.R_ne HO_6.out BK164.out (by decide))); have n3_ := qo ((by rw [hw]; exact qn (HB.out) GB32.out : Below w.heap.size w w51)); clear HO_3; clear HO_6; clear BK164; clear HB; have HO_3 := n0_; have HO_6 := n1_; have BK164 := n2_; have HB := n3_; clear n0_ n1_ n2_ n3_; clear hg hw hp_)))
                       (try simp only [← hl6_4])
                       go_roundg k4
                       case measure => have := HK1.out; have := HK2.out; have := HK3.out; have := HK4.out; omega
                       case rel => exact ⟨(y182), (wrap64 (x7_3 + 1)), (wrap64 (x46_3 + 1)), (by first | rfl | (simp; done) | (simp [*]; done)), (by first | rfl | (simp; done) | (simp [*]; done)), H', ⟨by have := HK1.out; have := HK2.out; have := HK3.out; have := HK4.out; omega⟩, ⟨by (try simp only [hl3_1]); (try simp only [hl3_2]); (try simp only [hl6_4]); (with_reducible repeat (first | apply qh | apply qg | apply qi)); exact qy HO_3.out (fun _ hk => hk.2)⟩, ⟨by (try simp only [hl3_1]); (try simp only [hl3_2]); (try simp only [hl6_4]); (with_reducible repeat (first | apply qh | apply qg | apply qi)); exact HO_6.out⟩, ⟨by (try simp only [hl3_1]); (try simp only [hl3_2]); (try simp only [hl6_4]); (with_reducible repeat (first | refine ql ?_ _ | refine qm ?_ | refine qk ?_ _)); exact BK164.out⟩, ⟨by repeat (first | (with_reducible first | exact HB.out | apply qc | apply qb | apply qd | refine qn ?_ GE164.out) | exact HB.out)⟩⟩
                      ·rw [if_neg c48] at H
                       have c48b0 : decide ((rd x6_4 x46_3) < 0) = false := qad c48
                       clear c48
                       have H' := qo H
                       clear H
                       have p181 : 0 ≤ (x46_3 : Int) := qq (by first | (with_reducible assumption) | assumption)
                       have q181 : x46_3 < (x6_4.length : Int) := qq (by first | (with_reducible assumption) | assumption)
                       obtain ⟨ad181, e181, hx181_0⟩ := Kd.at_int (qr HO_6.out).2.2 x46_3 p181 q181
                       obtain rfl : (⟨go32, 0, none⟩ : Addr) = ad181 := (by injection e181)
                       (first | simp only [add_plain] at hx181_0 | simp only [add_at] at hx181_0 | simp only [Addr.add, Nat.zero_add] at hx181_0 | skip)
                       replace p181 := eq_true p181
                       replace q181 := eq_true q181
                       go_wp2
                       repeat (go_quiet (fail); try go_wp2)
                       (try simp only [← hl6_4])
                       go_roundg k4
                       case measure => have := HK1.out; have := HK2.out; have := HK3.out; have := HK4.out; omega
                       case rel => exact ⟨(x6_4), (x7_3), (wrap64 (x46_3 + 1)), (by first | rfl | (simp; done) | (simp [*]; done)), (by first | rfl | (simp; done) | (simp [*]; done)), H', ⟨by have := HK1.out; have := HK2.out; have := HK3.out; have := HK4.out; omega⟩, ⟨by (try simp only [hl3_1]); (try simp only [hl3_2]); (try simp only [hl6_4]); (with_reducible repeat (first | apply qh | apply qg | apply qi)); exact HO_3.out⟩, ⟨by (try simp only [hl3_1]); (try simp only [hl3_2]); (try simp only [hl6_4]); (with_reducible repeat (first | apply qh | apply qg | apply qi)); exact HO_6.out⟩, ⟨by (try simp only [hl3_1]); (try simp only [hl3_2]); (try simp only [hl6_4]); (with_reducible repeat (first | refine ql ?_ _ | refine qm ?_ | refine qk ?_ _)); exact BK164.out⟩, ⟨by repeat (first | (with_reducible first | exact HB.out | apply qc | apply qb | apply qd | refine qn ?_ GE164.out) | exact HB.out)⟩⟩
                     ·rw [if_neg c47] at H
                      exact absurd H (by simp)
                    ·rw [if_neg c46] at H
                     exact absurd H (by simp)
                ·rw [if_neg c31] at H
                 exact absurd H (by simp)
               ·rw [if_neg c30] at H
                exact absurd H (by simp)
              ·rw [if_neg c29] at H
               have c29b0 : decide (x46_3 < (x3_2.length : Int)) = false := qad c29
               (try (have c29b9_0 := c29b0; simp only [hl3_1] at c29b9_0))
               (try (have c29b9_1 := c29b0; simp only [hl3_2] at c29b9_1))
               clear c29
               obtain rfl := Option.some.inj H
               go_wp2
               repeat (go_quiet (fail); try go_wp2)
               go_ret
               exact ⟨_, by first | rfl | (simp [errW_none, errW_some] <;> rfl) | (simp [*, errW_none, errW_some] <;> rfl), by (with_reducible repeat (first | apply qh | apply qg | apply qi)); exact qy HO_6.out (fun _ hk => trivial), by repeat (first | (with_reducible first | exact HB.out | apply qc | apply qb | apply qd | refine qn ?_ GE164.out) | exact HB.out)⟩
           ·rw [if_neg c25] at H
            exact absurd H (by simp)
          ·rw [if_neg c24] at H
           exact absurd H (by simp)
   ·rw [if_neg c5] at H
    exact absurd H (by simp)
  ·rw [if_neg c4] at H
   exact absurd H (by simp)
 ·replace c3 := Bool.eq_false_iff.mpr c3
  subst c3
  have H1 : (some ([] : List Int)) = some r := by rw [if_neg (show ¬ (false = true) by decide)] at H; exact H
  clear H
  have H := H1
  clear H1
  obtain rfl := Option.some.inj H
  go_enter Try.func45, Try.ntmps45
  go_wp2_with (first | ((with_reducible refine gate_dst (N := 1) rfl ?_); refine box_event ?hg (N := 1) ?hd (cs := #[.int .i64 a0_0, .slice A0_1 l0_1.length c0_1, .slice A0_2 l0_2.length c0_2]) (t := 26) ?hr ?_; (case hd => rfl); (case hg => rfl); (case hr => first | (go_simp; done) | (go_simp; rfl)); intro gb164 hg w52 hbox hb; have n0_ := qo (qt (by repeat (first | (with_reducible first | exact HB.out | apply qc | apply qb | apply qd) | exact HB.out)) hb); have n1_ := qo (hbox); have n2_ := qo ((by rw [hg]; exact (qu (by repeat (first | (with_reducible first | exact HB.out | apply qc | apply qb | apply qd) | exact HB.out))) : w.heap.size ≤ gb164)); have n3_ := qo ((by rw [hg]; exact (qu (by repeat (first | (with_reducible first | exact HB.out | apply qc | apply qb | apply qd) | exact HB.out))) : w.heap.size ≤ gb164)); clear HB; have HB := n0_; have BK164 := n1_; have GW164 := n2_; have GE164 := n3_; clear n0_ n1_ n2_ n3_; clear hb hbox hg; have hcz53_0 : w52.cell? ⟨gb164, 0, none⟩ = some (.int .i64 a0_0) := (qe BK164.out 0).trans rfl; have hcz53_1 : w52.cell? ⟨gb164, 1, none⟩ = some (.slice A0_1 l0_1.length c0_1) := (qe BK164.out 1).trans rfl; have hcz53_2 : w52.cell? ⟨gb164, 2, none⟩ = some (.slice A0_2 l0_2.length c0_2) := (qe BK164.out 2).trans rfl; have hfz53_0 := qf BK164.out 0; have hfz53_1 := qf BK164.out 1; have hfz53_2 := qf BK164.out 2) | (go_at_call 37; (with_reducible refine (railplanref11_Check.calls k a0_0 _ _ l0_1 _ _ l0_2 false _ ?side1 ?side2 ?side3 ?side4 A2.out).mono ?_); (case side1 => repeat (first | exact (qs HR0_1.out HB.out) | (with_reducible refine qv ?_ _) | (with_reducible refine qw ?_ _) | (with_reducible refine qx ?_))); (case side2 => exact HC0_1.out); (case side3 => repeat (first | exact (qs HR0_2.out HB.out) | (with_reducible refine qv ?_ _) | (with_reducible refine qw ?_ _) | (with_reducible refine qx ?_))); (case side4 => exact HC0_2.out); rintro e w54 ⟨rfl, hb⟩; have n0_ := qo (qaa (g := gb164) (o := .cells #[.int .i64 a0_0, .slice A0_1 l0_1.length c0_1, .slice A0_2 l0_2.length c0_2] 26 (0, 0)) (by (with_reducible repeat (first | refine ql ?_ _ | refine qm ?_ | refine qk ?_ _)); exact BK164.out) hb); have n1_ := qo (qt (by repeat (first | (with_reducible first | exact HB.out | apply qc | apply qb | apply qd | refine qn ?_ GE164.out) | exact HB.out)) hb); clear BK164; clear HB; have BK164 := n0_; have HB := n1_; clear n0_ n1_; (try clear hb); (try clear hb2); (try clear hk); (try clear hi)))
  repeat (go_quiet (first | ((with_reducible refine gate_dst (N := 1) rfl ?_); refine box_event ?hg (N := 1) ?hd (cs := #[.int .i64 a0_0, .slice A0_1 l0_1.length c0_1, .slice A0_2 l0_2.length c0_2]) (t := 26) ?hr ?_; (case hd => rfl); (case hg => rfl); (case hr => first | (go_simp; done) | (go_simp; rfl)); intro gb164 hg w52 hbox hb; have n0_ := qo (qt (by repeat (first | (with_reducible first | exact HB.out | apply qc | apply qb | apply qd) | exact HB.out)) hb); have n1_ := qo (hbox); have n2_ := qo ((by rw [hg]; exact (qu (by repeat (first | (with_reducible first | exact HB.out | apply qc | apply qb | apply qd) | exact HB.out))) : w.heap.size ≤ gb164)); have n3_ := qo ((by rw [hg]; exact (qu (by repeat (first | (with_reducible first | exact HB.out | apply qc | apply qb | apply qd) | exact HB.out))) : w.heap.size ≤ gb164)); clear HB; have HB := n0_; have BK164 := n1_; have GW164 := n2_; have GE164 := n3_; clear n0_ n1_ n2_ n3_; clear hb hbox hg; have hcz53_0 : w52.cell? ⟨gb164, 0, none⟩ = some (.int .i64 a0_0) := (qe BK164.out 0).trans rfl; have hcz53_1 : w52.cell? ⟨gb164, 1, none⟩ = some (.slice A0_1 l0_1.length c0_1) := (qe BK164.out 1).trans rfl; have hcz53_2 : w52.cell? ⟨gb164, 2, none⟩ = some (.slice A0_2 l0_2.length c0_2) := (qe BK164.out 2).trans rfl; have hfz53_0 := qf BK164.out 0; have hfz53_1 := qf BK164.out 1; have hfz53_2 := qf BK164.out 2) | (go_at_call 37; (with_reducible refine (railplanref11_Check.calls k a0_0 _ _ l0_1 _ _ l0_2 false _ ?side1 ?side2 ?side3 ?side4 A2.out).mono ?_); (case side1 => repeat (first | exact (qs HR0_1.out HB.out) | (with_reducible refine qv ?_ _) | (with_reducible refine qw ?_ _) | (with_reducible refine qx ?_))); (case side2 => exact HC0_1.out); (case side3 => repeat (first | exact (qs HR0_2.out HB.out) | (with_reducible refine qv ?_ _) | (with_reducible refine qw ?_ _) | (with_reducible refine qx ?_))); (case side4 => exact HC0_2.out); rintro e w54 ⟨rfl, hb⟩; have n0_ := qo (qaa (g := gb164) (o := .cells #[.int .i64 a0_0, .slice A0_1 l0_1.length c0_1, .slice A0_2 l0_2.length c0_2] 26 (0, 0)) (by (with_reducible repeat (first | refine ql ?_ _ | refine qm ?_ | refine qk ?_ _)); exact BK164.out) hb); have n1_ := qo (qt (by repeat (first | (with_reducible first | exact HB.out | apply qc | apply qb | apply qd | refine qn ?_ GE164.out) | exact HB.out)) hb); clear BK164; clear HB; have BK164 := n0_; have HB := n1_; clear n0_ n1_; (try clear hb); (try clear hb2); (try clear hk); (try clear hi))); try go_wp2_with (first | ((with_reducible refine gate_dst (N := 1) rfl ?_); refine box_event ?hg (N := 1) ?hd (cs := #[.int .i64 a0_0, .slice A0_1 l0_1.length c0_1, .slice A0_2 l0_2.length c0_2]) (t := 26) ?hr ?_; (case hd => rfl); (case hg => rfl); (case hr => first | (go_simp; done) | (go_simp; rfl)); intro gb164 hg w52 hbox hb; have n0_ := qo (qt (by repeat (first | (with_reducible first | exact HB.out | apply qc | apply qb | apply qd) | exact HB.out)) hb); have n1_ := qo (hbox); have n2_ := qo ((by rw [hg]; exact (qu (by repeat (first | (with_reducible first | exact HB.out | apply qc | apply qb | apply qd) | exact HB.out))) : w.heap.size ≤ gb164)); have n3_ := qo ((by rw [hg]; exact (qu (by repeat (first | (with_reducible first | exact HB.out | apply qc | apply qb | apply qd) | exact HB.out))) : w.heap.size ≤ gb164)); clear HB; have HB := n0_; have BK164 := n1_; have GW164 := n2_; have GE164 := n3_; clear n0_ n1_ n2_ n3_; clear hb hbox hg; have hcz53_0 : w52.cell? ⟨gb164, 0, none⟩ = some (.int .i64 a0_0) := (qe BK164.out 0).trans rfl; have hcz53_1 : w52.cell? ⟨gb164, 1, none⟩ = some (.slice A0_1 l0_1.length c0_1) := (qe BK164.out 1).trans rfl; have hcz53_2 : w52.cell? ⟨gb164, 2, none⟩ = some (.slice A0_2 l0_2.length c0_2) := (qe BK164.out 2).trans rfl; have hfz53_0 := qf BK164.out 0; have hfz53_1 := qf BK164.out 1; have hfz53_2 := qf BK164.out 2) | (go_at_call 37; (with_reducible refine (railplanref11_Check.calls k a0_0 _ _ l0_1 _ _ l0_2 false _ ?side1 ?side2 ?side3 ?side4 A2.out).mono ?_); (case side1 => repeat (first | exact (qs HR0_1.out HB.out) | (with_reducible refine qv ?_ _) | (with_reducible refine qw ?_ _) | (with_reducible refine qx ?_))); (case side2 => exact HC0_1.out); (case side3 => repeat (first | exact (qs HR0_2.out HB.out) | (with_reducible refine qv ?_ _) | (with_reducible refine qw ?_ _) | (with_reducible refine qx ?_))); (case side4 => exact HC0_2.out); rintro e w54 ⟨rfl, hb⟩; have n0_ := qo (qaa (g := gb164) (o := .cells #[.int .i64 a0_0, .slice A0_1 l0_1.length c0_1, .slice A0_2 l0_2.length c0_2] 26 (0, 0)) (by (with_reducible repeat (first | refine ql ?_ _ | refine qm ?_ | refine qk ?_ _)); exact BK164.out) hb); have n1_ := qo (qt (by repeat (first | (with_reducible first | exact HB.out | apply qc | apply qb | apply qd | refine qn ?_ GE164.out) | exact HB.out)) hb); clear BK164; clear HB; have BK164 := n0_; have HB := n1_; clear n0_ n1_; (try clear hb); (try clear hb2); (try clear hk); (try clear hi))))
  go_ret
  exact ⟨_, by first | rfl | (simp [errW_none, errW_some] <;> rfl) | (simp [*, errW_none, errW_some] <;> rfl), by first | exact Kd.R_nil _ _ _ _ _ | exact Kd.N_nil _ _ _ _ _ | exact Kd.V_nil _ _ _ _ _ | exact Kd.Q_nil _ _ _ _ _ | exact Kd.S_nil _ _ _ _ _, by repeat (first | (with_reducible first | exact HB.out | apply qc | apply qb | apply qd | refine qn ?_ GE164.out) | exact HB.out)⟩

end Go.Proofs.Ytpioelilfhkfdaa.XAll
