-- This session's own text, written by wip/tools/xall.py after the form of the kit's print.
import Derived.Test.YtnmhdeibjglhcaaXAllx0
import Derived.Test.YtnmhdeibjglhcaaXAllx2
import Derived.Test.YtnmhdeibjglhcaaXAllx7
namespace Go.Proofs.Ytnmhdeibjglhcaa.XAll
open Go.RowKit Go.Proofs.YtnmhdeibjglhcaaW.PrintWords Go.Proofs.YtnmhdeibjglhcaaW.PrintLast Go.Proofs.YtnmhdeibjglhcaaW.PrintMore
attribute [local go_sem] max2_int min2_int max_two min_two max_three min_three max_four min_four   -- for this text's walks alone
set_option linter.unusedVariables false
set_option linter.unusedSimpArgs false

/-! ### maxplus_Recover: function 21 -/
mutual
def maxplus_Recover.j0 : Nat → List (List Int) → List Int → Int → Int → Bool → Option (Int × Bool)
 | 0, _, _, _, _, _ => none
 | k + 1, x0, x1, x2, x3, x44 => if x44 = true then (some (0, false)) else (maxplus_Recover.l0 k x0 x1 x2 x3 x1 (x1.length : Int) 0)
def maxplus_Recover.l0 : Nat → List (List Int) → List Int → Int → Int → List Int → Int → Int → Option (Int × Bool)
 | 0, _, _, _, _, _, _, _ => none
 | k + 1, x0, x1, x2, x3, x45, x46, x47 => if x47 < x46 then (if 0 ≤ x47 then (if x47 < (x45.length : Int) then (if (rd x45 x47) < 0 then (some (0, false)) else (if (rd x45 x47) > 68719476736 then (some (0, false)) else (maxplus_Recover.l0 k x0 x1 x2 x3 x45 x46 (wrap64 (x47 + 1))))) else (none)) else (none)) else (maxplus_Recover.l1 k x0 x2 x3 x1 0)
def maxplus_Recover.l1 : Nat → List (List Int) → Int → Int → List Int → Int → Option (Int × Bool)
 | 0, _, _, _, _, _ => none
 | k + 1, x0, x2, x3, x12, x13 => if x13 ≤ x3 then ((maxplus_none.f k x12).bind fun t199 => (if t199 = true then (some (x13, true)) else (if 0 ≤ (x12.length : Int) then (if ((x12.length : Int) : Int).toNat ≤ 35184372088832 then (maxplus_Recover.l2 k x0 x2 x3 x12 x13 (List.replicate ((x12.length : Int) : Int).toNat 0) x0 (x0.length : Int) 0) else (none)) else (none)))) else (some (0, false))
def maxplus_Recover.l2 : Nat → List (List Int) → Int → Int → List Int → Int → List Int → List (List Int) → Int → Int → Option (Int × Bool)
 | 0, _, _, _, _, _, _, _, _, _ => none
 | k + 1, x0, x2, x3, x12, x13, x14, x70, x71, x72 => if x72 < x71 then (if 0 ≤ x72 then (if x72 < (x70.length : Int) then (maxplus_Recover.l3 k x0 x2 x3 x12 x13 x14 x72 x70 x71 x72 (rd_L1 x70 x72) ((rd_L1 x70 x72).length : Int) 0) else (none)) else (none)) else (maxplus_Recover.l1 k x0 x2 x3 x14 (wrap64 (x13 + 1)))
def maxplus_Recover.l3 : Nat → List (List Int) → Int → Int → List Int → Int → List Int → Int → List (List Int) → Int → Int → List Int → Int → Int → Option (Int × Bool)
 | 0, _, _, _, _, _, _, _, _, _, _, _, _, _ => none
 | k + 1, x0, x2, x3, x12, x13, x14, x15, x70, x71, x72, x77, x78, x79 => if x79 < x78 then (if 0 ≤ x79 then (if x79 < (x77.length : Int) then (if (rd x77 x79) = (-1125899906842624) then (maxplus_Recover.l3 k x0 x2 x3 x12 x13 x14 x15 x70 x71 x72 x77 x78 (wrap64 (x79 + 1))) else (if 0 ≤ x15 then (if x15 < (x14.length : Int) then (if x79 < (x12.length : Int) then (maxplus_Recover.l3 k x0 x2 x3 x12 x13 (x14.set (x15 : Int).toNat (mx (rd x14 x15) (wrap64 ((wrap64 ((rd x77 x79) + (rd x12 x79))) - x2)))) x15 x70 x71 x72 x77 x78 (wrap64 (x79 + 1))) else (none)) else (none)) else (none))) else (none)) else (none)) else (maxplus_Recover.l2 k x0 x2 x3 x12 x13 x14 x70 x71 (wrap64 (x72 + 1)))
end
def maxplus_Recover.f (k : Nat) (l0 : List (List Int)) (l1 : List Int) (a2 : Int) (a3 : Int) : Option (Int × Bool) := (maxplus_Check.f k l0).bind fun t197 => (if t197 = true then (if (l1.length : Int) = (l0.length : Int) then (if a2 < 1 then (maxplus_Recover.j0 k l0 l1 a2 a3 true) else (if a2 > 7200 then (maxplus_Recover.j0 k l0 l1 a2 a3 true) else (if a3 < 0 then (maxplus_Recover.j0 k l0 l1 a2 a3 true) else (maxplus_Recover.j0 k l0 l1 a2 a3 (decide (a3 > 3600)))))) else (maxplus_Recover.j0 k l0 l1 a2 a3 true)) else (maxplus_Recover.j0 k l0 l1 a2 a3 true))
theorem maxplus_Recover.mono_l : ∀ k, (∀ y0 y1 y2 y3 y4, LeO (maxplus_Recover.j0 k y0 y1 y2 y3 y4) (maxplus_Recover.j0 (k + 1) y0 y1 y2 y3 y4)) ∧ (∀ y0 y1 y2 y3 y4 y5 y6, LeO (maxplus_Recover.l0 k y0 y1 y2 y3 y4 y5 y6) (maxplus_Recover.l0 (k + 1) y0 y1 y2 y3 y4 y5 y6)) ∧ (∀ y0 y1 y2 y3 y4, LeO (maxplus_Recover.l1 k y0 y1 y2 y3 y4) (maxplus_Recover.l1 (k + 1) y0 y1 y2 y3 y4)) ∧ (∀ y0 y1 y2 y3 y4 y5 y6 y7 y8, LeO (maxplus_Recover.l2 k y0 y1 y2 y3 y4 y5 y6 y7 y8) (maxplus_Recover.l2 (k + 1) y0 y1 y2 y3 y4 y5 y6 y7 y8)) ∧ (∀ y0 y1 y2 y3 y4 y5 y6 y7 y8 y9 y10 y11 y12, LeO (maxplus_Recover.l3 k y0 y1 y2 y3 y4 y5 y6 y7 y8 y9 y10 y11 y12) (maxplus_Recover.l3 (k + 1) y0 y1 y2 y3 y4 y5 y6 y7 y8 y9 y10 y11 y12))
 | 0 => ⟨fun _ _ _ _ _ r h => by simp [maxplus_Recover.j0] at h, fun _ _ _ _ _ _ _ r h => by simp [maxplus_Recover.l0] at h, fun _ _ _ _ _ r h => by simp [maxplus_Recover.l1] at h, fun _ _ _ _ _ _ _ _ _ r h => by simp [maxplus_Recover.l2] at h, fun _ _ _ _ _ _ _ _ _ _ _ _ _ r h => by simp [maxplus_Recover.l3] at h⟩
 | k + 1 => by
  obtain ⟨ih0, ih1, ih2, ih3, ih4⟩ := maxplus_Recover.mono_l k
  refine ⟨?_, ?_, ?_, ?_, ?_⟩
  ·intro y0 y1 y2 y3 y4
   unfold maxplus_Recover.j0
   repeat' first
   | (with_reducible exact ih0 _ _ _ _ _)
   | (with_reducible exact ih1 _ _ _ _ _ _ _)
   | (with_reducible exact ih2 _ _ _ _ _)
   | (with_reducible exact ih3 _ _ _ _ _ _ _ _ _)
   | (with_reducible exact ih4 _ _ _ _ _ _ _ _ _ _ _ _ _)
   | (with_reducible exact maxplus_Check.mono _ _)
   | (with_reducible exact maxplus_none.mono _ _)
   | (with_reducible exact LeO.refl _)
   | (with_reducible exact LeO.none _)
   | (with_reducible refine LeO.ite ?_ ?_)
   | (with_reducible refine LeO.bind ?_ (fun _ => ?_))
   | exact ih0 _ _ _ _ _
   | exact ih1 _ _ _ _ _ _ _
   | exact ih2 _ _ _ _ _
   | exact ih3 _ _ _ _ _ _ _ _ _
   | exact ih4 _ _ _ _ _ _ _ _ _ _ _ _ _
   | exact maxplus_Check.mono _ _
   | exact maxplus_none.mono _ _
   | exact LeO.none _
   | refine LeO.ite ?_ ?_
   | refine LeO.bind ?_ (fun _ => ?_)
  ·intro y0 y1 y2 y3 y4 y5 y6
   unfold maxplus_Recover.l0
   repeat' first
   | (with_reducible exact ih0 _ _ _ _ _)
   | (with_reducible exact ih1 _ _ _ _ _ _ _)
   | (with_reducible exact ih2 _ _ _ _ _)
   | (with_reducible exact ih3 _ _ _ _ _ _ _ _ _)
   | (with_reducible exact ih4 _ _ _ _ _ _ _ _ _ _ _ _ _)
   | (with_reducible exact maxplus_Check.mono _ _)
   | (with_reducible exact maxplus_none.mono _ _)
   | (with_reducible exact LeO.refl _)
   | (with_reducible exact LeO.none _)
   | (with_reducible refine LeO.ite ?_ ?_)
   | (with_reducible refine LeO.bind ?_ (fun _ => ?_))
   | exact ih0 _ _ _ _ _
   | exact ih1 _ _ _ _ _ _ _
   | exact ih2 _ _ _ _ _
   | exact ih3 _ _ _ _ _ _ _ _ _
   | exact ih4 _ _ _ _ _ _ _ _ _ _ _ _ _
   | exact maxplus_Check.mono _ _
   | exact maxplus_none.mono _ _
   | exact LeO.none _
   | refine LeO.ite ?_ ?_
   | refine LeO.bind ?_ (fun _ => ?_)
  ·intro y0 y1 y2 y3 y4
   unfold maxplus_Recover.l1
   repeat' first
   | (with_reducible exact ih0 _ _ _ _ _)
   | (with_reducible exact ih1 _ _ _ _ _ _ _)
   | (with_reducible exact ih2 _ _ _ _ _)
   | (with_reducible exact ih3 _ _ _ _ _ _ _ _ _)
   | (with_reducible exact ih4 _ _ _ _ _ _ _ _ _ _ _ _ _)
   | (with_reducible exact maxplus_Check.mono _ _)
   | (with_reducible exact maxplus_none.mono _ _)
   | (with_reducible exact LeO.refl _)
   | (with_reducible exact LeO.none _)
   | (with_reducible refine LeO.ite ?_ ?_)
   | (with_reducible refine LeO.bind ?_ (fun _ => ?_))
   | exact ih0 _ _ _ _ _
   | exact ih1 _ _ _ _ _ _ _
   | exact ih2 _ _ _ _ _
   | exact ih3 _ _ _ _ _ _ _ _ _
   | exact ih4 _ _ _ _ _ _ _ _ _ _ _ _ _
   | exact maxplus_Check.mono _ _
   | exact maxplus_none.mono _ _
   | exact LeO.none _
   | refine LeO.ite ?_ ?_
   | refine LeO.bind ?_ (fun _ => ?_)
  ·intro y0 y1 y2 y3 y4 y5 y6 y7 y8
   unfold maxplus_Recover.l2
   repeat' first
   | (with_reducible exact ih0 _ _ _ _ _)
   | (with_reducible exact ih1 _ _ _ _ _ _ _)
   | (with_reducible exact ih2 _ _ _ _ _)
   | (with_reducible exact ih3 _ _ _ _ _ _ _ _ _)
   | (with_reducible exact ih4 _ _ _ _ _ _ _ _ _ _ _ _ _)
   | (with_reducible exact maxplus_Check.mono _ _)
   | (with_reducible exact maxplus_none.mono _ _)
   | (with_reducible exact LeO.refl _)
   | (with_reducible exact LeO.none _)
   | (with_reducible refine LeO.ite ?_ ?_)
   | (with_reducible refine LeO.bind ?_ (fun _ => ?_))
   | exact ih0 _ _ _ _ _
   | exact ih1 _ _ _ _ _ _ _
   | exact ih2 _ _ _ _ _
   | exact ih3 _ _ _ _ _ _ _ _ _
   | exact ih4 _ _ _ _ _ _ _ _ _ _ _ _ _
   | exact maxplus_Check.mono _ _
   | exact maxplus_none.mono _ _
   | exact LeO.none _
   | refine LeO.ite ?_ ?_
   | refine LeO.bind ?_ (fun _ => ?_)
  ·intro y0 y1 y2 y3 y4 y5 y6 y7 y8 y9 y10 y11 y12
   unfold maxplus_Recover.l3
   repeat' first
   | (with_reducible exact ih0 _ _ _ _ _)
   | (with_reducible exact ih1 _ _ _ _ _ _ _)
   | (with_reducible exact ih2 _ _ _ _ _)
   | (with_reducible exact ih3 _ _ _ _ _ _ _ _ _)
   | (with_reducible exact ih4 _ _ _ _ _ _ _ _ _ _ _ _ _)
   | (with_reducible exact maxplus_Check.mono _ _)
   | (with_reducible exact maxplus_none.mono _ _)
   | (with_reducible exact LeO.refl _)
   | (with_reducible exact LeO.none _)
   | (with_reducible refine LeO.ite ?_ ?_)
   | (with_reducible refine LeO.bind ?_ (fun _ => ?_))
   | exact ih0 _ _ _ _ _
   | exact ih1 _ _ _ _ _ _ _
   | exact ih2 _ _ _ _ _
   | exact ih3 _ _ _ _ _ _ _ _ _
   | exact ih4 _ _ _ _ _ _ _ _ _ _ _ _ _
   | exact maxplus_Check.mono _ _
   | exact maxplus_none.mono _ _
   | exact LeO.none _
   | refine LeO.ite ?_ ?_
   | refine LeO.bind ?_ (fun _ => ?_)
theorem maxplus_Recover.mono : ∀ a0 a1 a2 a3 k, LeO (maxplus_Recover.f k a0 a1 a2 a3) (maxplus_Recover.f (k + 1) a0 a1 a2 a3) := by
 intro a0 a1 a2 a3 k
 obtain ⟨ih0, ih1, ih2, ih3, ih4⟩ := maxplus_Recover.mono_l k
 unfold maxplus_Recover.f
 repeat' first
   | (with_reducible exact ih0 _ _ _ _ _)
   | (with_reducible exact ih1 _ _ _ _ _ _ _)
   | (with_reducible exact ih2 _ _ _ _ _)
   | (with_reducible exact ih3 _ _ _ _ _ _ _ _ _)
   | (with_reducible exact ih4 _ _ _ _ _ _ _ _ _ _ _ _ _)
   | (with_reducible exact maxplus_Check.mono _ _)
   | (with_reducible exact maxplus_none.mono _ _)
   | (with_reducible exact LeO.refl _)
   | (with_reducible exact LeO.none _)
   | (with_reducible refine LeO.ite ?_ ?_)
   | (with_reducible refine LeO.bind ?_ (fun _ => ?_))
   | exact ih0 _ _ _ _ _
   | exact ih1 _ _ _ _ _ _ _
   | exact ih2 _ _ _ _ _
   | exact ih3 _ _ _ _ _ _ _ _ _
   | exact ih4 _ _ _ _ _ _ _ _ _ _ _ _ _
   | exact maxplus_Check.mono _ _
   | exact maxplus_none.mono _ _
   | exact LeO.none _
   | refine LeO.ite ?_ ?_
   | refine LeO.bind ?_ (fun _ => ?_)
def maxplus_Recover.T23 : Bool × List (List Nat × List Nat) := (true, [([], []), ([], []), ([], []), ([], []), ([2, 3], [2, 3]), ([4], [4]), ([], []), ([], []), ([], []), ([7, 8], [7, 8]), ([9], [9]), ([6, 10], [6, 10]), ([], []), ([11, 12], [11, 12]), ([5, 13], [5, 13]), ([0, 1, 0, 1, 2, 3, 4, 5, 6, 7, 8, 9, 10, 11, 12, 13, 14], [0, 1]), ([15, 14, 0, 1, 2, 3, 4, 5, 6, 7, 8, 9, 10, 11, 12, 13, 14], [14, 15])])
def maxplus_Recover.B23 : List Nat := [0, 0, 0, 0, 12, 28, 0, 0, 0, 384, 896, 1984, 0, 8128, 16380, 32767, 65535]
theorem maxplus_Recover.tab23 : rtab .any (opsOf Try.f21 23) = maxplus_Recover.T23 := by kernel_rfl
theorem maxplus_Recover.bits23 : waitsOk maxplus_Recover.T23.2 maxplus_Recover.B23 = true := by kernel_rfl
set_option maxHeartbeats 8000000 in
set_option maxRecDepth 100000 in
theorem maxplus_Recover.calls (k : Nat) (A0 : Option Addr) (c0 : Nat) (l0 : List (List Int)) (P1_ : Nat → Prop) (A1 : Option Addr) (c1 : Nat) (l1 : List Int) (a2 : Int) (a3 : Int) (r1 : Int) (r2 : Bool) (w : World) (hr0 : Kd.C (Kd.slice 3 (Kd.int .i64)) w A0 l0.length l0) (hc0 : l0.length ≤ c0) (hs1 : Kd.V (Kd.int .i64) 3 w w.heap.size (fun k_ => P1_ k_) (.slice A1 l1.length c1) l1) (h : maxplus_Recover.f k l0 l1 a2 a3 = some (r1, r2)) :
  Calls Try.prog 21 #[.slice A0 l0.length c0, .slice A1 l1.length c1, .int .i64 a2, .int .i64 a3] w fun e w' => e = .returned (.tuple #[.int .i64 r1, .bool r2]) ∧ Below w.heap.size w w' := by
 have HR0 := Aside0.mk hr0
 have HC0 := Aside0.mk hc0
 clear hr0 hc0
 have HO1 := Aside0.mk (show Kd.V (Kd.int .i64) 3 w w.heap.size (fun k_ => (P1_ k_ ∨ w.heap.size ≤ k_)) (.slice A1 l1.length c1) l1 from Kd.V_mono hs1 (fun k_ hk => .inl hk))
 have HB := Aside0.mk (Below.refl w.heap.size w)
 have H : ((maxplus_Check.f k l0).bind fun t197 => (if t197 = true then (if (l1.length : Int) = (l0.length : Int) then (if a2 < 1 then (maxplus_Recover.j0 k l0 l1 a2 a3 true) else (if a2 > 7200 then (maxplus_Recover.j0 k l0 l1 a2 a3 true) else (if a3 < 0 then (maxplus_Recover.j0 k l0 l1 a2 a3 true) else (maxplus_Recover.j0 k l0 l1 a2 a3 (decide (a3 > 3600)))))) else (maxplus_Recover.j0 k l0 l1 a2 a3 true)) else (maxplus_Recover.j0 k l0 l1 a2 a3 true))) = some (r1, r2) := h
 clear h
 have HC5 := Aside0.mk H
 clear H
 go_enter Try.func21, Try.ntmps21
 go_upto_region 1 with (fail)
 go_cut [44] (fun v44 wc => ∃ (kq : Nat) (x44_4 : Bool), v44 = .bool x44_4 ∧ Aside0 (maxplus_Recover.j0 kq l0 l1 a2 a3 x44_4 = some (r1, r2)) ∧ Aside0 (kq ≤ k) ∧ Aside0 (Kd.V (Kd.int .i64) 3 wc w.heap.size (fun k_ => (P1_ k_ ∨ w.heap.size ≤ k_)) (.slice A1 l1.length c1) l1) ∧ Aside0 (Below w.heap.size w wc))
 case first =>
  have H := HC5.out
  clear HC5
  replace H := Option.bind_eq_some_iff.mp H
  obtain ⟨t197, A60, H⟩ := H
  replace H : (if t197 = true then (if (l1.length : Int) = (l0.length : Int) then (if a2 < 1 then (maxplus_Recover.j0 k l0 l1 a2 a3 true) else (if a2 > 7200 then (maxplus_Recover.j0 k l0 l1 a2 a3 true) else (if a3 < 0 then (maxplus_Recover.j0 k l0 l1 a2 a3 true) else (maxplus_Recover.j0 k l0 l1 a2 a3 (decide (a3 > 3600)))))) else (maxplus_Recover.j0 k l0 l1 a2 a3 true)) else (maxplus_Recover.j0 k l0 l1 a2 a3 true)) = some (r1, r2) := H
  have A6 := Aside0.mk A60
  clear A60
  by_cases c7 : t197 = true
  ·subst c7
   have H1 : (if (l1.length : Int) = (l0.length : Int) then (if a2 < 1 then (maxplus_Recover.j0 k l0 l1 a2 a3 true) else (if a2 > 7200 then (maxplus_Recover.j0 k l0 l1 a2 a3 true) else (if a3 < 0 then (maxplus_Recover.j0 k l0 l1 a2 a3 true) else (maxplus_Recover.j0 k l0 l1 a2 a3 (decide (a3 > 3600)))))) else (maxplus_Recover.j0 k l0 l1 a2 a3 true)) = some (r1, r2) := by rw [if_pos rfl] at H; exact H
   clear H
   have H := H1
   clear H1
   by_cases c8 : (l1.length : Int) = (l0.length : Int)
   ·rw [if_pos c8] at H
    have c8b0 : ((l1.length : Int) == (l0.length : Int)) = true := beq_iff_eq.mpr c8
    have c8b1 : ((l1.length : Int) != (l0.length : Int)) = false := bne_eq_false_iff_eq.mpr c8
    have c8b2 : (l1.length == l0.length) = true := by first | simpa using c8 | (simp at c8 ⊢; omega)
    clear c8
    (first | rw [c8b0] | (simp only [i64_w, i32_w]; rw [c8b0]) | skip)
    by_cases c9 : a2 < 1
    ·rw [if_pos c9] at H
     have c9b0 : decide (a2 < 1) = true := decide_eq_true c9
     clear c9
     have H' := Aside0.mk H
     clear H
     go_wp2_with (first | ((with_reducible refine gate_callee (f := 30) rfl ?_); refine goesL_ (some 20) rfl rfl Try.func30 (by kernel_rfl) rfl #[.slice A0 l0.length c0] rfl (by (try simp only [List.map_toArray, List.map_cons, List.map_nil]); first | done | rfl | (simp only [List.length_drop, List.length_take]; rfl)) ?_; (with_reducible refine (maxplus_Check.calls k _ _ l0 true _ ?side1 ?side2 A6.out).mono ?_); (case side1 => repeat (first | exact (Kd.C_below HR0.out HB.out) | (with_reducible refine Kd.C_alloc ?_ _) | (with_reducible refine Kd.C_drewN ?_ _) | (with_reducible refine Kd.C_drew ?_))); (case side2 => exact HC0.out); rintro e w' ⟨rfl, ⟨nd, rfl⟩⟩; refine ⟨_, rfl, ?_⟩))
     go_meet
     case rel => exact ⟨_, (true), (by first | rfl | (simp; done) | (simp [*]; done)), H', ⟨by first | omega | exact Nat.le_refl _⟩, ⟨by (with_reducible repeat (first | apply Kd.V_alloc | apply Kd.V_drewN | apply Kd.V_drew)); exact HO1.out⟩, ⟨by repeat (first | (with_reducible first | exact HB.out | apply below_alloc | apply pw_below_drewN | apply below_drew1) | exact HB.out)⟩⟩
    ·rw [if_neg c9] at H
     have c9b0 : decide (a2 < 1) = false := decide_eq_false c9
     clear c9
     by_cases c10 : a2 > 7200
     ·rw [if_pos c10] at H
      have c10b0 : decide (7200 < a2) = true := decide_eq_true c10
      clear c10
      have H' := Aside0.mk H
      clear H
      go_wp2_with (first | ((with_reducible refine gate_callee (f := 30) rfl ?_); refine goesL_ (some 20) rfl rfl Try.func30 (by kernel_rfl) rfl #[.slice A0 l0.length c0] rfl (by (try simp only [List.map_toArray, List.map_cons, List.map_nil]); first | done | rfl | (simp only [List.length_drop, List.length_take]; rfl)) ?_; (with_reducible refine (maxplus_Check.calls k _ _ l0 true _ ?side1 ?side2 A6.out).mono ?_); (case side1 => repeat (first | exact (Kd.C_below HR0.out HB.out) | (with_reducible refine Kd.C_alloc ?_ _) | (with_reducible refine Kd.C_drewN ?_ _) | (with_reducible refine Kd.C_drew ?_))); (case side2 => exact HC0.out); rintro e w' ⟨rfl, ⟨nd, rfl⟩⟩; refine ⟨_, rfl, ?_⟩))
      go_meet
      case rel => exact ⟨_, (true), (by first | rfl | (simp; done) | (simp [*]; done)), H', ⟨by first | omega | exact Nat.le_refl _⟩, ⟨by (with_reducible repeat (first | apply Kd.V_alloc | apply Kd.V_drewN | apply Kd.V_drew)); exact HO1.out⟩, ⟨by repeat (first | (with_reducible first | exact HB.out | apply below_alloc | apply pw_below_drewN | apply below_drew1) | exact HB.out)⟩⟩
     ·rw [if_neg c10] at H
      have c10b0 : decide (7200 < a2) = false := decide_eq_false c10
      clear c10
      by_cases c11 : a3 < 0
      ·rw [if_pos c11] at H
       have c11b0 : decide (a3 < 0) = true := decide_eq_true c11
       clear c11
       have H' := Aside0.mk H
       clear H
       go_wp2_with (first | ((with_reducible refine gate_callee (f := 30) rfl ?_); refine goesL_ (some 20) rfl rfl Try.func30 (by kernel_rfl) rfl #[.slice A0 l0.length c0] rfl (by (try simp only [List.map_toArray, List.map_cons, List.map_nil]); first | done | rfl | (simp only [List.length_drop, List.length_take]; rfl)) ?_; (with_reducible refine (maxplus_Check.calls k _ _ l0 true _ ?side1 ?side2 A6.out).mono ?_); (case side1 => repeat (first | exact (Kd.C_below HR0.out HB.out) | (with_reducible refine Kd.C_alloc ?_ _) | (with_reducible refine Kd.C_drewN ?_ _) | (with_reducible refine Kd.C_drew ?_))); (case side2 => exact HC0.out); rintro e w' ⟨rfl, ⟨nd, rfl⟩⟩; refine ⟨_, rfl, ?_⟩))
       go_meet
       case rel => exact ⟨_, (true), (by first | rfl | (simp; done) | (simp [*]; done)), H', ⟨by first | omega | exact Nat.le_refl _⟩, ⟨by (with_reducible repeat (first | apply Kd.V_alloc | apply Kd.V_drewN | apply Kd.V_drew)); exact HO1.out⟩, ⟨by repeat (first | (with_reducible first | exact HB.out | apply below_alloc | apply pw_below_drewN | apply below_drew1) | exact HB.out)⟩⟩
      ·rw [if_neg c11] at H
       have c11b0 : decide (a3 < 0) = false := decide_eq_false c11
       clear c11
       have H' := Aside0.mk H
       clear H
       go_wp2_with (first | ((with_reducible refine gate_callee (f := 30) rfl ?_); refine goesL_ (some 20) rfl rfl Try.func30 (by kernel_rfl) rfl #[.slice A0 l0.length c0] rfl (by (try simp only [List.map_toArray, List.map_cons, List.map_nil]); first | done | rfl | (simp only [List.length_drop, List.length_take]; rfl)) ?_; (with_reducible refine (maxplus_Check.calls k _ _ l0 true _ ?side1 ?side2 A6.out).mono ?_); (case side1 => repeat (first | exact (Kd.C_below HR0.out HB.out) | (with_reducible refine Kd.C_alloc ?_ _) | (with_reducible refine Kd.C_drewN ?_ _) | (with_reducible refine Kd.C_drew ?_))); (case side2 => exact HC0.out); rintro e w' ⟨rfl, ⟨nd, rfl⟩⟩; refine ⟨_, rfl, ?_⟩))
       go_meet
       case rel => exact ⟨_, (decide (a3 > 3600)), (by first | rfl | (simp; done) | (simp [*]; done)), H', ⟨by first | omega | exact Nat.le_refl _⟩, ⟨by (with_reducible repeat (first | apply Kd.V_alloc | apply Kd.V_drewN | apply Kd.V_drew)); exact HO1.out⟩, ⟨by repeat (first | (with_reducible first | exact HB.out | apply below_alloc | apply pw_below_drewN | apply below_drew1) | exact HB.out)⟩⟩
   ·rw [if_neg c8] at H
    have c8b0 : ((l1.length : Int) == (l0.length : Int)) = false := beq_eq_false_iff_ne.mpr c8
    have c8b1 : ((l1.length : Int) != (l0.length : Int)) = true := bne_iff_ne.mpr c8
    have c8b2 : (l1.length == l0.length) = false := by first | simpa using c8 | (simp at c8 ⊢; omega)
    (first | rw [c8b0] | (simp only [i64_w, i32_w]; rw [c8b0]) | skip)
    have H' := Aside0.mk H
    clear H
    go_wp2_with (first | ((with_reducible refine gate_callee (f := 30) rfl ?_); refine goesL_ (some 20) rfl rfl Try.func30 (by kernel_rfl) rfl #[.slice A0 l0.length c0] rfl (by (try simp only [List.map_toArray, List.map_cons, List.map_nil]); first | done | rfl | (simp only [List.length_drop, List.length_take]; rfl)) ?_; (with_reducible refine (maxplus_Check.calls k _ _ l0 true _ ?side1 ?side2 A6.out).mono ?_); (case side1 => repeat (first | exact (Kd.C_below HR0.out HB.out) | (with_reducible refine Kd.C_alloc ?_ _) | (with_reducible refine Kd.C_drewN ?_ _) | (with_reducible refine Kd.C_drew ?_))); (case side2 => exact HC0.out); rintro e w' ⟨rfl, ⟨nd, rfl⟩⟩; refine ⟨_, rfl, ?_⟩))
    go_meet
    case rel => exact ⟨_, (true), (by first | rfl | (simp; done) | (simp [*]; done)), H', ⟨by first | omega | exact Nat.le_refl _⟩, ⟨by (with_reducible repeat (first | apply Kd.V_alloc | apply Kd.V_drewN | apply Kd.V_drew)); exact HO1.out⟩, ⟨by repeat (first | (with_reducible first | exact HB.out | apply below_alloc | apply pw_below_drewN | apply below_drew1) | exact HB.out)⟩⟩
  ·replace c7 := Bool.eq_false_iff.mpr c7
   subst c7
   have H1 : (maxplus_Recover.j0 k l0 l1 a2 a3 true) = some (r1, r2) := by rw [if_neg (show ¬ (false = true) by decide)] at H; exact H
   clear H
   have H := H1
   clear H1
   have H' := Aside0.mk H
   clear H
   go_wp2_with (first | ((with_reducible refine gate_callee (f := 30) rfl ?_); refine goesL_ (some 20) rfl rfl Try.func30 (by kernel_rfl) rfl #[.slice A0 l0.length c0] rfl (by (try simp only [List.map_toArray, List.map_cons, List.map_nil]); first | done | rfl | (simp only [List.length_drop, List.length_take]; rfl)) ?_; (with_reducible refine (maxplus_Check.calls k _ _ l0 false _ ?side1 ?side2 A6.out).mono ?_); (case side1 => repeat (first | exact (Kd.C_below HR0.out HB.out) | (with_reducible refine Kd.C_alloc ?_ _) | (with_reducible refine Kd.C_drewN ?_ _) | (with_reducible refine Kd.C_drew ?_))); (case side2 => exact HC0.out); rintro e w' ⟨rfl, ⟨nd, rfl⟩⟩; refine ⟨_, rfl, ?_⟩))
   go_meet
   case rel => exact ⟨_, (true), (by first | rfl | (simp; done) | (simp [*]; done)), H', ⟨by first | omega | exact Nat.le_refl _⟩, ⟨by (with_reducible repeat (first | apply Kd.V_alloc | apply Kd.V_drewN | apply Kd.V_drew)); exact HO1.out⟩, ⟨by repeat (first | (with_reducible first | exact HB.out | apply below_alloc | apply pw_below_drewN | apply below_drew1) | exact HB.out)⟩⟩
 case rest =>
  clear HC5
  try clear c1
  try clear c2
  try clear p2
  try clear c3
  try clear c7
  try clear c8
  try clear c8b0
  try clear c8b1
  try clear c8b2
  try clear c9
  try clear c9b0
  try clear c10
  try clear c10b0
  try clear c11
  try clear c11b0
  obtain ⟨kq, x44_4, rfl, HA, HJ4, HO_1, HB⟩ := hcut
  cases kq with
  | zero => exact absurd HA.out (by simp [maxplus_Recover.j0])
  | succ kj4 =>
   have H := HA.out
   clear HA
   simp only [maxplus_Recover.j0] at H
   by_cases c12 : x44_4 = true
   ·subst c12
    have H1 : (some (0, false)) = some (r1, r2) := by rw [if_pos rfl] at H; exact H
    clear H
    have H := H1
    clear H1
    simp only [Option.some.injEq, Prod.mk.injEq] at H
    obtain ⟨rfl, rfl⟩ := H
    go_wp2
    go_ret2
    exact ⟨by first | rfl | (simp [errW_none, errW_some] <;> rfl) | (simp [*, errW_none, errW_some] <;> rfl), by repeat (first | (with_reducible first | exact HB.out | apply below_alloc | apply pw_below_drewN | apply below_drew1) | exact HB.out)⟩
   ·replace c12 := Bool.eq_false_iff.mpr c12
    subst c12
    have H1 : (maxplus_Recover.l0 kj4 l0 l1 a2 a3 l1 (l1.length : Int) 0) = some (r1, r2) := by rw [if_neg (show ¬ (false = true) by decide)] at H; exact H
    clear H
    have H := H1
    clear H1
    have H' := Aside0.mk H
    clear H
    go_wp2
    go_loopg [47] kj4 (fun kq v47 w' => ∃ (x47_2 : Int), v47 = .int .i64 x47_2 ∧ Aside0 (maxplus_Recover.l0 kq l0 l1 a2 a3 l1 (l1.length : Int) x47_2 = some (r1, r2)) ∧ Aside0 (kq ≤ kj4) ∧ Aside0 (Kd.V (Kd.int .i64) 3 w' w.heap.size (fun k_ => (P1_ k_ ∨ w.heap.size ≤ k_)) (.slice A1 l1.length c1) l1) ∧ Aside0 (Kd.V (Kd.int .i64) 3 w' w.heap.size (fun k_ => (P1_ k_ ∨ w.heap.size ≤ k_)) (.slice A1 l1.length c1) l1) ∧ Aside0 (Below w.heap.size w w'))
    case atStart => exact ⟨(0), (by first | rfl | (simp; done) | (simp [*]; done)), H', ⟨Nat.le_refl _⟩, ⟨by (with_reducible repeat (first | apply Kd.V_alloc | apply Kd.V_drewN | apply Kd.V_drew)); exact HO_1.out⟩, ⟨by (with_reducible repeat (first | apply Kd.V_alloc | apply Kd.V_drewN | apply Kd.V_drew)); exact HO_1.out⟩, ⟨by repeat (first | (with_reducible first | exact HB.out | apply below_alloc | apply pw_below_drewN | apply below_drew1) | exact HB.out)⟩⟩
    case round =>
     clear H'
     try clear c1
     try clear c2
     try clear p2
     try clear c3
     try clear c7
     try clear c8
     try clear c8b0
     try clear c8b1
     try clear c8b2
     try clear c9
     try clear c9b0
     try clear c10
     try clear c10b0
     try clear c11
     try clear c11b0
     try clear c12
     try clear p2
     obtain ⟨x47_2, rfl, HA, HK2, HO_1, HO_45, HB⟩ := hrel
     cases gk with
     | zero => exact absurd HA.out (by simp [maxplus_Recover.l0])
     | succ k2 =>
      have H := HA.out
      clear HA
      simp only [maxplus_Recover.l0] at H
      by_cases c13 : x47_2 < (l1.length : Int)
      ·rw [if_pos c13] at H
       have c13b0 : decide (x47_2 < (l1.length : Int)) = true := decide_eq_true c13
       clear c13
       by_cases c14 : 0 ≤ x47_2
       ·rw [if_pos c14] at H
        have c14b0 : decide (0 ≤ x47_2) = true := decide_eq_true c14
        clear c14
        by_cases c15 : x47_2 < (l1.length : Int)
        ·rw [if_pos c15] at H
         have c15b0 : decide (x47_2 < (l1.length : Int)) = true := decide_eq_true c15
         clear c15
         by_cases c16 : (rd l1 x47_2) < 0
         ·rw [if_pos c16] at H
          have c16b0 : decide ((rd l1 x47_2) < 0) = true := decide_eq_true c16
          clear c16
          simp only [Option.some.injEq, Prod.mk.injEq] at H
          obtain ⟨rfl, rfl⟩ := H
          have p198 : 0 ≤ (x47_2 : Int) := of_decide_eq_true (by first | (with_reducible assumption) | assumption)
          have q198 : x47_2 < (l1.length : Int) := of_decide_eq_true (by first | (with_reducible assumption) | assumption)
          obtain ⟨ad198, e198, hx198_0⟩ := Kd.at_int (Kd.V_reads' HO_45.out).2.2 x47_2 p198 q198
          cases e198
          replace p198 := eq_true p198
          replace q198 := eq_true q198
          go_wp2
          go_ret2
          exact ⟨by first | rfl | (simp [errW_none, errW_some] <;> rfl) | (simp [*, errW_none, errW_some] <;> rfl), by repeat (first | (with_reducible first | exact HB.out | apply below_alloc | apply pw_below_drewN | apply below_drew1) | exact HB.out)⟩
         ·rw [if_neg c16] at H
          have c16b0 : decide ((rd l1 x47_2) < 0) = false := decide_eq_false c16
          clear c16
          by_cases c17 : (rd l1 x47_2) > 68719476736
          ·rw [if_pos c17] at H
           have c17b0 : decide (68719476736 < (rd l1 x47_2)) = true := decide_eq_true c17
           clear c17
           simp only [Option.some.injEq, Prod.mk.injEq] at H
           obtain ⟨rfl, rfl⟩ := H
           have p198 : 0 ≤ (x47_2 : Int) := of_decide_eq_true (by first | (with_reducible assumption) | assumption)
           have q198 : x47_2 < (l1.length : Int) := of_decide_eq_true (by first | (with_reducible assumption) | assumption)
           obtain ⟨ad198, e198, hx198_0⟩ := Kd.at_int (Kd.V_reads' HO_45.out).2.2 x47_2 p198 q198
           cases e198
           replace p198 := eq_true p198
           replace q198 := eq_true q198
           go_wp2
           go_ret2
           exact ⟨by first | rfl | (simp [errW_none, errW_some] <;> rfl) | (simp [*, errW_none, errW_some] <;> rfl), by repeat (first | (with_reducible first | exact HB.out | apply below_alloc | apply pw_below_drewN | apply below_drew1) | exact HB.out)⟩
          ·rw [if_neg c17] at H
           have c17b0 : decide (68719476736 < (rd l1 x47_2)) = false := decide_eq_false c17
           clear c17
           have H' := Aside0.mk H
           clear H
           have p198 : 0 ≤ (x47_2 : Int) := of_decide_eq_true (by first | (with_reducible assumption) | assumption)
           have q198 : x47_2 < (l1.length : Int) := of_decide_eq_true (by first | (with_reducible assumption) | assumption)
           obtain ⟨ad198, e198, hx198_0⟩ := Kd.at_int (Kd.V_reads' HO_45.out).2.2 x47_2 p198 q198
           cases e198
           replace p198 := eq_true p198
           replace q198 := eq_true q198
           go_wp2
           go_roundg k2
           case measure => have := HJ4.out; have := HK2.out; omega
           case rel => exact ⟨(wrap64 (x47_2 + 1)), (by first | rfl | (simp; done) | (simp [*]; done)), H', ⟨by have := HJ4.out; have := HK2.out; omega⟩, ⟨by (with_reducible repeat (first | apply Kd.V_alloc | apply Kd.V_drewN | apply Kd.V_drew)); exact HO_1.out⟩, ⟨by (with_reducible repeat (first | apply Kd.V_alloc | apply Kd.V_drewN | apply Kd.V_drew)); exact HO_45.out⟩, ⟨by repeat (first | (with_reducible first | exact HB.out | apply below_alloc | apply pw_below_drewN | apply below_drew1) | exact HB.out)⟩⟩
        ·rw [if_neg c15] at H
         exact absurd H (by simp)
       ·rw [if_neg c14] at H
        exact absurd H (by simp)
      ·rw [if_neg c13] at H
       have c13b0 : decide (x47_2 < (l1.length : Int)) = false := decide_eq_false c13
       clear c13
       have H' := Aside0.mk H
       clear H
       go_wp2
       go_loopg [12, 13] k2 (fun kq v12 v13 w' => ∃ (x12_3 : List Int) (x13_3 : Int), v13 = .int .i64 x13_3 ∧ Aside0 (maxplus_Recover.l1 kq l0 a2 a3 x12_3 x13_3 = some (r1, r2)) ∧ Aside0 (kq ≤ k2) ∧ Aside0 (Kd.V (Kd.int .i64) 3 w' w.heap.size (fun k_ => (P1_ k_ ∨ w.heap.size ≤ k_)) v12 x12_3) ∧ Aside0 (Below w.heap.size w w'))
       case atStart => exact ⟨(l1), (0), (by first | rfl | (simp; done) | (simp [*]; done)), H', ⟨Nat.le_refl _⟩, ⟨by (with_reducible repeat (first | apply Kd.V_alloc | apply Kd.V_drewN | apply Kd.V_drew)); exact HO_1.out⟩, ⟨by repeat (first | (with_reducible first | exact HB.out | apply below_alloc | apply pw_below_drewN | apply below_drew1) | exact HB.out)⟩⟩
       case round =>
        clear H'
        try clear c1
        try clear p1
        try clear q1
        try clear hx1
        try clear c2
        try clear p2
        try clear c3
        try clear p6
        try clear c7
        try clear c8
        try clear c8b0
        try clear c8b1
        try clear c8b2
        try clear c9
        try clear c9b0
        try clear c10
        try clear c10b0
        try clear c11
        try clear c11b0
        try clear c12
        try clear c13
        try clear c13b0
        try clear c14
        try clear c14b0
        try clear c15
        try clear c15b0
        try clear c16
        try clear c16b0
        try clear c17
        try clear c17b0
        try clear hx198_0
        try clear p198
        try clear p2
        try clear q198
        obtain ⟨x12_3, x13_3, rfl, HA, HK3, HO_12, HB⟩ := hrel
        cases gk with
        | zero => exact absurd HA.out (by simp [maxplus_Recover.l1])
        | succ k3 =>
         have H := HA.out
         clear HA
         simp only [maxplus_Recover.l1] at H
         by_cases c18 : x13_3 ≤ a3
         ·rw [if_pos c18] at H
          have c18b0 : decide (x13_3 ≤ a3) = true := decide_eq_true c18
          clear c18
          replace H := Option.bind_eq_some_iff.mp H
          obtain ⟨t199, A190, H⟩ := H
          replace H : (if t199 = true then (some (x13_3, true)) else (if 0 ≤ (x12_3.length : Int) then (if ((x12_3.length : Int) : Int).toNat ≤ 35184372088832 then (maxplus_Recover.l2 k3 l0 a2 a3 x12_3 x13_3 (List.replicate ((x12_3.length : Int) : Int).toNat 0) l0 (l0.length : Int) 0) else (none)) else (none))) = some (r1, r2) := H
          have A19 := Aside0.mk A190
          clear A190
          by_cases c20 : t199 = true
          ·subst c20
           have H1 : (some (x13_3, true)) = some (r1, r2) := by rw [if_pos rfl] at H; exact H
           clear H
           have H := H1
           clear H1
           simp only [Option.some.injEq, Prod.mk.injEq] at H
           obtain ⟨rfl, rfl⟩ := H
           obtain ⟨Ao21, co21, eo21⟩ := Kd.V_slice HO_12.out
           subst eo21
           go_wp2_with (first | ((with_reducible refine gate_callee (f := 46) rfl ?_); refine goesL_ (some 65) rfl rfl Try.func46 (by kernel_rfl) rfl #[.slice Ao21 x12_3.length co21] rfl (by (try simp only [List.map_toArray, List.map_cons, List.map_nil]); first | done | rfl | (simp only [List.length_drop, List.length_take]; rfl)) ?_; (with_reducible refine (maxplus_none.calls k3 _ _ x12_3 true _ ?side1 ?side2 A19.out).mono ?_); (case side1 => repeat (first | exact (Kd.V_reads' HO_12.out).2.2 | (with_reducible refine Kd.C_alloc ?_ _) | (with_reducible refine Kd.C_drewN ?_ _) | (with_reducible refine Kd.C_drew ?_))); (case side2 => exact (Kd.V_reads' HO_12.out).2.1); rintro e w' ⟨rfl, ⟨nd, rfl⟩⟩; refine ⟨_, rfl, ?_⟩))
           go_ret2
           exact ⟨by first | rfl | (simp [errW_none, errW_some] <;> rfl) | (simp [*, errW_none, errW_some] <;> rfl), by repeat (first | (with_reducible first | exact HB.out | apply below_alloc | apply pw_below_drewN | apply below_drew1) | exact HB.out)⟩
          ·replace c20 := Bool.eq_false_iff.mpr c20
           subst c20
           have H1 : (if 0 ≤ (x12_3.length : Int) then (if ((x12_3.length : Int) : Int).toNat ≤ 35184372088832 then (maxplus_Recover.l2 k3 l0 a2 a3 x12_3 x13_3 (List.replicate ((x12_3.length : Int) : Int).toNat 0) l0 (l0.length : Int) 0) else (none)) else (none)) = some (r1, r2) := by rw [if_neg (show ¬ (false = true) by decide)] at H; exact H
           clear H
           have H := H1
           clear H1
           by_cases c22 : 0 ≤ (x12_3.length : Int)
           ·rw [if_pos c22] at H
            have c22b0 := eq_true c22
            have c22b1 : decide (0 ≤ (x12_3.length : Int)) = true := decide_eq_true c22
            clear c22
            by_cases c23 : ((x12_3.length : Int) : Int).toNat ≤ 35184372088832
            ·rw [if_pos c23] at H
             have c23b0 := eq_true c23
             have c23b1 : decide (((x12_3.length : Int) : Int).toNat ≤ 35184372088832) = true := decide_eq_true c23
             clear c23
             obtain ⟨y200, hy200⟩ : ∃ y_ : List Int, y_ = (List.replicate ((x12_3.length : Int) : Int).toNat 0) := ⟨_, rfl⟩
             replace H : (maxplus_Recover.l2 k3 l0 a2 a3 x12_3 x13_3 y200 l0 (l0.length : Int) 0) = some (r1, r2) := by first | (rw [hy200]; with_reducible exact H) | (have H2_ := (Option.bind_some _ _).symm.trans H; rw [hy200]; with_reducible exact H2_) | (have H2_ := (Option.bind_some _ _).symm.trans H; with_reducible exact H2_) | with_reducible exact H | (rw [hy200]; exact H) | exact H
             have Ny200 := Aside0.mk hy200
             clear hy200
             have H' := Aside0.mk H
             clear H
             obtain ⟨Ao24, co24, eo24⟩ := Kd.V_slice HO_12.out
             subst eo24
             go_wp2_with (first | ((with_reducible refine gate_callee (f := 46) rfl ?_); refine goesL_ (some 65) rfl rfl Try.func46 (by kernel_rfl) rfl #[.slice Ao24 x12_3.length co24] rfl (by (try simp only [List.map_toArray, List.map_cons, List.map_nil]); first | done | rfl | (simp only [List.length_drop, List.length_take]; rfl)) ?_; (with_reducible refine (maxplus_none.calls k3 _ _ x12_3 false _ ?side1 ?side2 A19.out).mono ?_); (case side1 => repeat (first | exact (Kd.V_reads' HO_12.out).2.2 | (with_reducible refine Kd.C_alloc ?_ _) | (with_reducible refine Kd.C_drewN ?_ _) | (with_reducible refine Kd.C_drew ?_))); (case side2 => exact (Kd.V_reads' HO_12.out).2.1); rintro e w' ⟨rfl, ⟨nd, rfl⟩⟩; refine ⟨_, rfl, ?_⟩) | ((with_reducible refine gate_dst (N := 69) rfl ?_); (try (refine gate_guard (by rfl) ?_; dsimp only)); refine Kd.R_make (Kd.int .i64) _ 3 rfl (N := 69) rfl 22 _ _ rfl (x12_3.length : Int) rfl rfl Try.underlying22 (.int .i64 0) 8 info3 rfl (by decide) (by omega) 0 (ok := fun _ => True) (okp := fun _ => True) rfl (fun _ hk => hk) trivial (of_decide_eq_true (by first | (with_reducible assumption) | assumption)) (Nat.le_trans (Nat.mul_le_mul_right _ (of_decide_eq_true (by first | (with_reducible assumption) | assumption) : (x12_3.length : Int).toNat ≤ 35184372088832)) (by omega)) (Below.refl _ _) (Nat.le_refl _) ?_; intro v201 w25 ho26 hb hg_ hnew_; clear hg_ hnew_; (first | rw [← Ny200.out] at ho26 | (simp only [Int.reduceToNat] at ho26; rw [← Ny200.out] at ho26)); have n0_ := Aside0.mk (Kd.V_elder' (by (with_reducible repeat (first | apply Kd.V_alloc | apply Kd.V_drewN | apply Kd.V_drew)); exact HO_12.out) (by first | exact Kd.N_base ho26 | exact Kd.S_base ho26 | exact Kd.R_base ho26 | exact Kd.Q_base ho26) hb); have n1_ := Aside0.mk (Kd.R_lower (Kd.R_newM (M := fun k_ => (w.heap.size ≤ k_)) ho26 (below_size (by repeat (first | (with_reducible first | exact HB.out | apply below_alloc | apply pw_below_drewN | apply below_drew1) | exact HB.out))) (fun k_ h_ => h_)) (below_size (by repeat (first | (with_reducible first | exact HB.out | apply below_alloc | apply pw_below_drewN | apply below_drew1) | exact HB.out)))); have n2_ := Aside0.mk (below_step (by repeat (first | (with_reducible first | exact HB.out | apply below_alloc | apply pw_below_drewN | apply below_drew1) | exact HB.out)) hb); clear HO_12; clear HB; have HO_12 := n0_; have HO202 := n1_; have HB := n2_; clear n0_ n1_ n2_; clear hb ho26))
             go_loopg [72] k3 (fun kq v72 w' => ∃ (x14_4 : List Int) (x72_4 : Int), v72 = .int .i64 x72_4 ∧ Aside0 (maxplus_Recover.l2 kq l0 a2 a3 x12_3 x13_3 x14_4 l0 (l0.length : Int) x72_4 = some (r1, r2)) ∧ Aside0 (kq ≤ k3) ∧ Aside0 (Kd.V (Kd.int .i64) 3 w' w.heap.size (fun k_ => (P1_ k_ ∨ w.heap.size ≤ k_) ∧ some k_ ≠ (v201 : Value).ownBlock) (.slice Ao24 x12_3.length co24) x12_3) ∧ Aside0 (Kd.R (Kd.int .i64) 3 w' w.heap.size (fun k_ => (w.heap.size ≤ k_)) v201 x14_4) ∧ Aside0 (Below w.heap.size w w'))
             case atStart => exact ⟨(y200), (0), (by first | rfl | (simp; done) | (simp [*]; done)), H', ⟨Nat.le_refl _⟩, ⟨by (with_reducible repeat (first | apply Kd.V_alloc | apply Kd.V_drewN | apply Kd.V_drew)); exact HO_12.out⟩, ⟨by (with_reducible repeat (first | apply Kd.R_alloc | apply Kd.R_drewN | apply Kd.R_drew)); exact Kd.R_mono HO202.out (fun _ hk => hk.1)⟩, ⟨by repeat (first | (with_reducible first | exact HB.out | apply below_alloc | apply pw_below_drewN | apply below_drew1) | exact HB.out)⟩⟩
             case round =>
              clear H'
              try clear c1
              try clear p1
              try clear q1
              try clear hx1
              try clear c2
              try clear p2
              try clear c3
              try clear c4
              try clear p6
              try clear c7
              try clear c8
              try clear c8b0
              try clear c8b1
              try clear c8b2
              try clear c9
              try clear c9b0
              try clear c10
              try clear c10b0
              try clear c11
              try clear c11b0
              try clear c12
              try clear c13
              try clear c13b0
              try clear c14
              try clear c14b0
              try clear c15
              try clear c15b0
              try clear c16
              try clear c16b0
              try clear c17
              try clear c17b0
              try clear c18
              try clear c18b0
              try clear p19
              try clear q19
              try clear hx19
              try clear c20
              try clear c21
              try clear c22
              try clear c22b0
              try clear c22b1
              try clear c23
              try clear c23b0
              try clear c23b1
              try clear hx198_0
              try clear p1
              try clear p198
              try clear p2
              try clear p6
              try clear q1
              try clear q198
              obtain ⟨x14_4, x72_4, rfl, HA, HK4, HO_12, HO_14, HB⟩ := hrel
              cases gk with
              | zero => exact absurd HA.out (by simp [maxplus_Recover.l2])
              | succ k4 =>
               have H := HA.out
               clear HA
               simp only [maxplus_Recover.l2] at H
               by_cases c27 : x72_4 < (l0.length : Int)
               ·rw [if_pos c27] at H
                have c27b0 : decide (x72_4 < (l0.length : Int)) = true := decide_eq_true c27
                clear c27
                by_cases c28 : 0 ≤ x72_4
                ·rw [if_pos c28] at H
                 have c28b0 : decide (0 ≤ x72_4) = true := decide_eq_true c28
                 clear c28
                 by_cases c29 : x72_4 < (l0.length : Int)
                 ·rw [if_pos c29] at H
                  have c29b0 : decide (x72_4 < (l0.length : Int)) = true := decide_eq_true c29
                  clear c29
                  have H' := Aside0.mk H
                  clear H
                  have p203 : 0 ≤ (x72_4 : Int) := of_decide_eq_true (by first | (with_reducible assumption) | assumption)
                  have q203 : x72_4 < (l0.length : Int) := of_decide_eq_true (by first | (with_reducible assumption) | assumption)
                  obtain ⟨ad203, A203_0, c203_0, e203, hx203_0, hl203_0, hi203_0⟩ := at_L1 HR0.out x72_4 p203 q203
                  cases e203
                  replace hx203_0 := (HB.out.cell (World.block_lt_of_cell? w _ hx203_0)).trans hx203_0
                  have HR203_0 := Aside0.mk hi203_0
                  have HC203_0 := Aside0.mk hl203_0
                  clear hi203_0 hl203_0
                  replace p203 := eq_true p203
                  replace q203 := eq_true q203
                  go_wp2
                  go_loopg [79] k4 (fun kq v79 w' => ∃ (x14_5 : List Int) (x79_5 : Int), v79 = .int .i64 x79_5 ∧ Aside0 (maxplus_Recover.l3 kq l0 a2 a3 x12_3 x13_3 x14_5 x72_4 l0 (l0.length : Int) x72_4 (rd_L1 l0 x72_4) ((rd_L1 l0 x72_4).length : Int) x79_5 = some (r1, r2)) ∧ Aside0 (kq ≤ k4) ∧ Aside0 (Kd.V (Kd.int .i64) 3 w' w.heap.size (fun k_ => (P1_ k_ ∨ w.heap.size ≤ k_) ∧ some k_ ≠ (v201 : Value).ownBlock) (.slice Ao24 x12_3.length co24) x12_3) ∧ Aside0 (Kd.R (Kd.int .i64) 3 w' w.heap.size (fun k_ => (w.heap.size ≤ k_)) v201 x14_5) ∧ Aside0 (Below w.heap.size w w'))
                  case atStart => exact ⟨(x14_4), (0), (by first | rfl | (simp; done) | (simp [*]; done)), H', ⟨Nat.le_refl _⟩, ⟨by (with_reducible repeat (first | apply Kd.V_alloc | apply Kd.V_drewN | apply Kd.V_drew)); exact HO_12.out⟩, ⟨by (with_reducible repeat (first | apply Kd.R_alloc | apply Kd.R_drewN | apply Kd.R_drew)); exact HO_14.out⟩, ⟨by repeat (first | (with_reducible first | exact HB.out | apply below_alloc | apply pw_below_drewN | apply below_drew1) | exact HB.out)⟩⟩
                  case round =>
                   clear H'
                   try clear c1
                   try clear p1
                   try clear q1
                   try clear hx1
                   try clear c2
                   try clear p2
                   try clear q2
                   try clear hx2
                   try clear c3
                   try clear c4
                   try clear p6
                   try clear c7
                   try clear c8
                   try clear c8b0
                   try clear c8b1
                   try clear c8b2
                   try clear c9
                   try clear c9b0
                   try clear c10
                   try clear c10b0
                   try clear c11
                   try clear c11b0
                   try clear c12
                   try clear c13
                   try clear c13b0
                   try clear c14
                   try clear c14b0
                   try clear c15
                   try clear c15b0
                   try clear c16
                   try clear c16b0
                   try clear c17
                   try clear c17b0
                   try clear c18
                   try clear c18b0
                   try clear p19
                   try clear q19
                   try clear hx19
                   try clear c20
                   try clear p20
                   try clear q20
                   try clear hx20
                   try clear c21
                   try clear c22
                   try clear c22b0
                   try clear c22b1
                   try clear c23
                   try clear c23b0
                   try clear c23b1
                   try clear c27
                   try clear c27b0
                   try clear c28
                   try clear c28b0
                   try clear c29
                   try clear c29b0
                   try clear hx198_0
                   try clear hx203_0
                   try clear p1
                   try clear p19
                   try clear p198
                   try clear p2
                   try clear p203
                   try clear p6
                   try clear q1
                   try clear q19
                   try clear q198
                   try clear q203
                   obtain ⟨x14_5, x79_5, rfl, HA, HK5, HO_12, HO_14, HB⟩ := hrel
                   cases gk with
                   | zero => exact absurd HA.out (by simp [maxplus_Recover.l3])
                   | succ k5 =>
                    have H := HA.out
                    clear HA
                    simp only [maxplus_Recover.l3] at H
                    by_cases c30 : x79_5 < ((rd_L1 l0 x72_4).length : Int)
                    ·rw [if_pos c30] at H
                     have c30b0 : decide (x79_5 < ((rd_L1 l0 x72_4).length : Int)) = true := decide_eq_true c30
                     clear c30
                     by_cases c31 : 0 ≤ x79_5
                     ·rw [if_pos c31] at H
                      have c31b0 : decide (0 ≤ x79_5) = true := decide_eq_true c31
                      clear c31
                      by_cases c32 : x79_5 < ((rd_L1 l0 x72_4).length : Int)
                      ·rw [if_pos c32] at H
                       have c32b0 : decide (x79_5 < ((rd_L1 l0 x72_4).length : Int)) = true := decide_eq_true c32
                       clear c32
                       by_cases c33 : (rd (rd_L1 l0 x72_4) x79_5) = (-1125899906842624)
                       ·rw [if_pos c33] at H
                        have c33b0 : ((rd (rd_L1 l0 x72_4) x79_5) == (-1125899906842624)) = true := beq_iff_eq.mpr c33
                        have c33b1 : ((rd (rd_L1 l0 x72_4) x79_5) != (-1125899906842624)) = false := bne_eq_false_iff_eq.mpr c33
                        clear c33
                        have H' := Aside0.mk H
                        clear H
                        have p204 : 0 ≤ (x79_5 : Int) := of_decide_eq_true (by first | (with_reducible assumption) | assumption)
                        have q204 : x79_5 < ((rd_L1 l0 x72_4).length : Int) := of_decide_eq_true (by first | (with_reducible assumption) | assumption)
                        obtain ⟨ad204, e204, hx204_0⟩ := Kd.at_int HR203_0.out x79_5 p204 q204
                        cases e204
                        replace hx204_0 := (HB.out.cell (World.block_lt_of_cell? w _ hx204_0)).trans hx204_0
                        replace p204 := eq_true p204
                        replace q204 := eq_true q204
                        go_wp2
                        go_roundg k5
                        case measure => have := HJ4.out; have := HK2.out; have := HK3.out; have := HK4.out; have := HK5.out; omega
                        case rel => exact ⟨(x14_5), (wrap64 (x79_5 + 1)), (by first | rfl | (simp; done) | (simp [*]; done)), H', ⟨by have := HJ4.out; have := HK2.out; have := HK3.out; have := HK4.out; have := HK5.out; omega⟩, ⟨by (with_reducible repeat (first | apply Kd.V_alloc | apply Kd.V_drewN | apply Kd.V_drew)); exact HO_12.out⟩, ⟨by (with_reducible repeat (first | apply Kd.R_alloc | apply Kd.R_drewN | apply Kd.R_drew)); exact HO_14.out⟩, ⟨by repeat (first | (with_reducible first | exact HB.out | apply below_alloc | apply pw_below_drewN | apply below_drew1) | exact HB.out)⟩⟩
                       ·rw [if_neg c33] at H
                        have c33b0 : ((rd (rd_L1 l0 x72_4) x79_5) == (-1125899906842624)) = false := beq_eq_false_iff_ne.mpr c33
                        have c33b1 : ((rd (rd_L1 l0 x72_4) x79_5) != (-1125899906842624)) = true := bne_iff_ne.mpr c33
                        by_cases c34 : 0 ≤ x72_4
                        ·rw [if_pos c34] at H
                         have c34b0 : decide (0 ≤ x72_4) = true := decide_eq_true c34
                         clear c34
                         by_cases c35 : x72_4 < (x14_5.length : Int)
                         ·rw [if_pos c35] at H
                          have c35b0 : decide (x72_4 < (x14_5.length : Int)) = true := decide_eq_true c35
                          clear c35
                          by_cases c36 : x79_5 < (x12_3.length : Int)
                          ·rw [if_pos c36] at H
                           have c36b0 : decide (x79_5 < (x12_3.length : Int)) = true := decide_eq_true c36
                           clear c36
                           obtain ⟨ji37, hji37⟩ : ∃ j_ : Int, (mx (rd x14_5 x72_4) (wrap64 ((wrap64 ((rd (rd_L1 l0 x72_4) x79_5) + (rd x12_3 x79_5))) - a2))) = j_ := ⟨_, rfl⟩
                           replace H : (maxplus_Recover.l3 k5 l0 a2 a3 x12_3 x13_3 (x14_5.set (x72_4 : Int).toNat (ji37)) x72_4 l0 (l0.length : Int) x72_4 (rd_L1 l0 x72_4) ((rd_L1 l0 x72_4).length : Int) (wrap64 (x79_5 + 1))) = some (r1, r2) := by first | (rw [hji37] at H; exact H) | (simp only [hji37] at H ⊢; exact H)
                           have hji37_ : (if (rd x14_5 x72_4) < (wrap64 ((wrap64 ((rd (rd_L1 l0 x72_4) x79_5) + (rd x12_3 x79_5))) - a2)) then (wrap64 ((wrap64 ((rd (rd_L1 l0 x72_4) x79_5) + (rd x12_3 x79_5))) - a2)) else (rd x14_5 x72_4)) = ji37 := hji37
                           obtain ⟨y207, hy207⟩ : ∃ y_ : List Int, y_ = (x14_5.set (x72_4 : Int).toNat (ji37)) := ⟨_, rfl⟩
                           replace H : (maxplus_Recover.l3 k5 l0 a2 a3 x12_3 x13_3 y207 x72_4 l0 (l0.length : Int) x72_4 (rd_L1 l0 x72_4) ((rd_L1 l0 x72_4).length : Int) (wrap64 (x79_5 + 1))) = some (r1, r2) := by first | (rw [hy207]; with_reducible exact H) | (have H2_ := (Option.bind_some _ _).symm.trans H; rw [hy207]; with_reducible exact H2_) | (have H2_ := (Option.bind_some _ _).symm.trans H; with_reducible exact H2_) | with_reducible exact H | (rw [hy207]; exact H) | exact H
                           have Ny207 := Aside0.mk hy207
                           clear hy207
                           have H' := Aside0.mk H
                           clear H
                           have p204 : 0 ≤ (x79_5 : Int) := of_decide_eq_true (by first | (with_reducible assumption) | assumption)
                           have q204 : x79_5 < ((rd_L1 l0 x72_4).length : Int) := of_decide_eq_true (by first | (with_reducible assumption) | assumption)
                           obtain ⟨ad204, e204, hx204_0⟩ := Kd.at_int HR203_0.out x79_5 p204 q204
                           cases e204
                           replace hx204_0 := (HB.out.cell (World.block_lt_of_cell? w _ hx204_0)).trans hx204_0
                           replace p204 := eq_true p204
                           replace q204 := eq_true q204
                           try go_wp2
                           have n0_ := Aside0.mk (Kd.V_drew HO_12.out)
                           have n1_ := Aside0.mk (Kd.R_drew HO_14.out)
                           have n2_ := Aside0.mk (below_drew1 HB.out)
                           clear HO_12
                           clear HO_14
                           clear HB
                           have HO_12 := n0_
                           have HO_14 := n1_
                           have HB := n2_
                           clear n0_ n1_ n2_
                           obtain ⟨Ao40, co40, eo40⟩ := Kd.R_slice HO_14.out
                           (first | subst eo40 | (injection eo40 with f1_ f2_ f3_; have f4_ := f1_.symm; have f5_ := f3_.symm; clear f1_ f2_ f3_; subst f4_; subst f5_))
                           have p205 : 0 ≤ (x72_4 : Int) := of_decide_eq_true (by first | (with_reducible assumption) | assumption)
                           have q205 : x72_4 < (x14_5.length : Int) := of_decide_eq_true (by first | (with_reducible assumption) | assumption)
                           obtain ⟨ad205, e205, hx205_0⟩ := Kd.at_int (Kd.R_reads' HO_14.out).2.2 x72_4 p205 q205
                           cases e205
                           replace p205 := eq_true p205
                           replace q205 := eq_true q205
                           have p206 : 0 ≤ (x79_5 : Int) := of_decide_eq_true (by first | (with_reducible assumption) | assumption)
                           have q206 : x79_5 < (x12_3.length : Int) := of_decide_eq_true (by first | (with_reducible assumption) | assumption)
                           obtain ⟨ad206, e206, hx206_0⟩ := Kd.at_int (Kd.V_reads' HO_12.out).2.2 x79_5 p206 q206
                           cases e206
                           replace p206 := eq_true p206
                           replace q206 := eq_true q206
                           have p38 : 0 ≤ (x72_4 : Int) := of_decide_eq_true (by first | (with_reducible assumption) | assumption)
                           have q38 : (x72_4 : Int) < ((x14_5.length : Int) : Int) := of_decide_eq_true (by first | (with_reducible assumption) | assumption)
                           obtain ⟨go38, co38, eo38, gb38, gl38, cl38, HG38⟩ := Kd.R_form HO_14.out (by omega)
                           (first | cases eo38 | (injection eo38 with ea_ en_ ec_; (first | subst ea_ | (injection ea_ with ea_; subst ea_)); subst ec_; clear en_))
                           have GB38 := Aside0.mk gb38
                           have GG38 := Aside0.mk HG38
                           clear gb38 gl38 HG38
                           (first | simp only [add_plain] at hx205_0 | skip)
                           obtain ⟨hx38_0, hf38_0⟩ := Kd.R_celln 0 HO_14.out (x72_4 : Int) p38 q38
                           replace p38 := eq_true p38
                           replace q38 := eq_true q38
                           have HP41 := Kd.R_putn HO_14.out (x72_4 : Int) ji37
                           rw [← Ny207.out] at HP41
                           have HQ41 := Aside0.mk HP41
                           clear HP41
                           refine start_ (n := 17) (S := fun w' => w'.cell? ⟨go38, (x72_4).toNat, none⟩ = some (.int .i64 (rd x14_5 x72_4)) ∧ w'.cell? (ad206.add (x79_5).toNat) = some (.int .i64 (rd x12_3 x79_5))) (ds := [16]) #[false, false, false, false, false, false, false, false, false, false, false, false, false, false, false, false, false] (by kernel_rfl) rfl rfl ⟨hx205_0, hx206_0⟩ (fun hHeld => ?_); refine with_tabW maxplus_Recover.tab23 maxplus_Recover.bits23 (fun HT_ HW_ => ?_)
                           generalize wr.drew = w39 at HO_12 HO_14 HB GG38 HQ41 hf38_0 hx205_0 hx206_0 hx38_0 hHeld ⊢
                           refine pure_ (i := 0) (N := some 86) (v := ?_) (a' := ?_) #[true, false, false, false, false, false, false, false, false, false, false, false, false, false, false, false, false] rfl rfl (any_of HT_.out (by kernel_rfl)) (fun _ _ _ h => h) (Or.inl ⟨by rfl, ?_⟩) ?_ ?_
                           rotate_left
                           ·intro w'
                            go_simp
                            with_reducible rfl
                           rotate_left
                           ·simp only [Act.put, List.setIfInBounds_toArray, List.set_cons_zero, List.set_cons_succ, i64_w, i32_w]
                            rfl
                           refine pure_ (i := 1) (N := some 87) (v := ?_) (a' := ?_) #[true, true, false, false, false, false, false, false, false, false, false, false, false, false, false, false, false] rfl rfl (any_of HT_.out (by kernel_rfl)) (fun _ _ _ h => h) (Or.inl ⟨by rfl, ?_⟩) ?_ ?_
                           rotate_left
                           ·intro w'
                            go_simp
                            with_reducible rfl
                           rotate_left
                           ·simp only [Act.put, List.setIfInBounds_toArray, List.set_cons_zero, List.set_cons_succ, i64_w, i32_w]
                            rfl
                           refine pure_ (i := 2) (N := some 88) (v := ?_) (a' := ?_) #[true, true, true, false, false, false, false, false, false, false, false, false, false, false, false, false, false] rfl rfl (any_of HT_.out (by kernel_rfl)) (fun _ _ _ h => h) (Or.inl ⟨by rfl, ?_⟩) ?_ ?_
                           rotate_left
                           ·intro w'
                            go_simp
                            with_reducible rfl
                           rotate_left
                           ·simp only [Act.put, List.setIfInBounds_toArray, List.set_cons_zero, List.set_cons_succ, i64_w, i32_w]
                            rfl
                           refine pure_ (i := 3) (N := some 89) (v := ?_) (a' := ?_) #[true, true, true, true, false, false, false, false, false, false, false, false, false, false, false, false, false] rfl rfl (any_of HT_.out (by kernel_rfl)) (fun _ _ _ h => h) (Or.inl ⟨by rfl, ?_⟩) ?_ ?_
                           rotate_left
                           ·intro w'
                            go_simp
                            with_reducible rfl
                           rotate_left
                           ·simp only [Act.put, List.setIfInBounds_toArray, List.set_cons_zero, List.set_cons_succ, i64_w, i32_w]
                            rfl
                           refine pure_ (i := 4) (N := some 90) (v := ?_) (a' := ?_) #[true, true, true, true, true, false, false, false, false, false, false, false, false, false, false, false, false] rfl rfl (any_of HT_.out (by kernel_rfl)) (fun _ _ _ h => h) (Or.inl ⟨by rfl, ?_⟩) ?_ ?_
                           rotate_left
                           ·intro w'
                            go_simp
                            with_reducible rfl
                           rotate_left
                           ·simp only [Act.put, List.setIfInBounds_toArray, List.set_cons_zero, List.set_cons_succ, i64_w, i32_w]
                            rfl
                           refine pure_ (i := 6) (N := some 92) (v := ?_) (a' := ?_) #[true, true, true, true, true, false, true, false, false, false, false, false, false, false, false, false, false] rfl rfl (any_of HT_.out (by kernel_rfl)) (fun _ _ _ h => h) (Or.inl ⟨by rfl, ?_⟩) ?_ ?_
                           rotate_left
                           ·intro w'
                            go_simp
                            with_reducible rfl
                           rotate_left
                           ·simp only [Act.put, List.setIfInBounds_toArray, List.set_cons_zero, List.set_cons_succ, i64_w, i32_w]
                            rfl
                           refine pure_ (i := 7) (N := some 93) (v := ?_) (a' := ?_) #[true, true, true, true, true, false, true, true, false, false, false, false, false, false, false, false, false] rfl rfl (any_of HT_.out (by kernel_rfl)) (fun _ _ _ h => h) (Or.inl ⟨by rfl, ?_⟩) ?_ ?_
                           rotate_left
                           ·intro w'
                            go_simp
                            with_reducible rfl
                           rotate_left
                           ·simp only [Act.put, List.setIfInBounds_toArray, List.set_cons_zero, List.set_cons_succ, i64_w, i32_w]
                            rfl
                           refine pure_ (i := 8) (N := some 94) (v := ?_) (a' := ?_) #[true, true, true, true, true, false, true, true, true, false, false, false, false, false, false, false, false] rfl rfl (any_of HT_.out (by kernel_rfl)) (fun _ _ _ h => h) (Or.inl ⟨by rfl, ?_⟩) ?_ ?_
                           rotate_left
                           ·intro w'
                            go_simp
                            with_reducible rfl
                           rotate_left
                           ·simp only [Act.put, List.setIfInBounds_toArray, List.set_cons_zero, List.set_cons_succ, i64_w, i32_w]
                            rfl
                           refine pure_ (i := 9) (N := some 95) (v := ?_) (a' := ?_) #[true, true, true, true, true, false, true, true, true, true, false, false, false, false, false, false, false] rfl rfl (any_of HT_.out (by kernel_rfl)) (fun _ _ _ h => h) (Or.inl ⟨by rfl, ?_⟩) ?_ ?_
                           rotate_left
                           ·intro w'
                            go_simp
                            with_reducible rfl
                           rotate_left
                           ·simp only [Act.put, List.setIfInBounds_toArray, List.set_cons_zero, List.set_cons_succ, i64_w, i32_w]
                            rfl
                           refine pure_ (i := 12) (N := some 98) (v := ?_) (a' := ?_) #[true, true, true, true, true, false, true, true, true, true, false, false, true, false, false, false, false] rfl rfl (any_of HT_.out (by kernel_rfl)) (fun _ _ _ h => h) (Or.inl ⟨by rfl, ?_⟩) ?_ ?_
                           rotate_left
                           ·intro w'
                            go_simp
                            with_reducible rfl
                           rotate_left
                           ·simp only [Act.put, List.setIfInBounds_toArray, List.set_cons_zero, List.set_cons_succ, i64_w, i32_w]
                            rfl
                           refine take_ (i := 5) (N := some 91) (v := ?_) (a' := ?_) #[true, true, true, true, true, true, true, true, true, true, false, false, true, false, false, false, false] rfl rfl (take_ofW HT_.out HW_.out (by kernel_rfl)) (fun _ _ _ h => h) (Or.inl ⟨by rfl, ?_⟩) hHeld ?_ ?_
                           rotate_left
                           ·rintro w' ⟨s0, s1⟩
                            go_simp
                            with_reducible rfl
                           rotate_left
                           ·simp only [Act.put, List.setIfInBounds_toArray, List.set_cons_zero, List.set_cons_succ, i64_w, i32_w]
                            rfl
                           refine take_ (i := 10) (N := some 96) (v := ?_) (a' := ?_) #[true, true, true, true, true, true, true, true, true, true, true, false, true, false, false, false, false] rfl rfl (take_ofW HT_.out HW_.out (by kernel_rfl)) (fun _ _ _ h => h) (Or.inl ⟨by rfl, ?_⟩) hHeld ?_ ?_
                           rotate_left
                           ·rintro w' ⟨s0, s1⟩
                            go_simp
                            with_reducible rfl
                           rotate_left
                           ·simp only [Act.put, List.setIfInBounds_toArray, List.set_cons_zero, List.set_cons_succ, i64_w, i32_w]
                            rfl
                           refine pure_ (i := 11) (N := some 97) (v := ?_) (a' := ?_) #[true, true, true, true, true, true, true, true, true, true, true, true, true, false, false, false, false] rfl rfl (any_of HT_.out (by kernel_rfl)) (fun _ _ _ h => h) (Or.inl ⟨by rfl, ?_⟩) ?_ ?_
                           rotate_left
                           ·intro w'
                            go_simp
                            with_reducible rfl
                           rotate_left
                           ·simp only [Act.put, List.setIfInBounds_toArray, List.set_cons_zero, List.set_cons_succ, i64_w, i32_w]
                            rfl
                           refine pure_ (i := 13) (N := some 99) (v := ?_) (a' := ?_) #[true, true, true, true, true, true, true, true, true, true, true, true, true, true, false, false, false] rfl rfl (any_of HT_.out (by kernel_rfl)) (fun _ _ _ h => h) (Or.inl ⟨by rfl, ?_⟩) ?_ ?_
                           rotate_left
                           ·intro w'
                            go_simp
                            with_reducible rfl
                           rotate_left
                           ·simp only [Act.put, List.setIfInBounds_toArray, List.set_cons_zero, List.set_cons_succ, i64_w, i32_w]
                            rfl
                           refine pure_ (i := 14) (N := some 100) (v := ?_) (a' := ?_) #[true, true, true, true, true, true, true, true, true, true, true, true, true, true, true, false, false] rfl rfl (any_of HT_.out (by kernel_rfl)) (fun _ _ _ h => h) (Or.inl ⟨by rfl, ?_⟩) ?_ ?_
                           rotate_left
                           ·intro w'
                            go_simp
                            with_reducible rfl
                           rotate_left
                           ·simp only [Act.put, List.setIfInBounds_toArray, List.set_cons_zero, List.set_cons_succ, i64_w, i32_w]
                            rfl
                           refine pure_ (i := 15) (N := some 101) (v := ?_) (a' := ?_) #[true, true, true, true, true, true, true, true, true, true, true, true, true, true, true, true, false] rfl rfl (any_of HT_.out (by kernel_rfl)) (fun _ _ _ h => h) (Or.inl ⟨by rfl, ?_⟩) ?_ ?_
                           rotate_left
                           ·intro w'
                            go_simp
                            with_reducible rfl
                           rotate_left
                           ·simp only [Act.put, List.setIfInBounds_toArray, List.set_cons_zero, List.set_cons_succ, i64_w, i32_w]
                            rfl
                           refine last_ (i := 16) (N := none) #[true, true, true, true, true, true, true, true, true, true, true, true, true, true, true, true, true] rfl rfl (one_of HT_.out (by kernel_rfl)) (by decide) (fun K hK => ?_)
                           refine skip_ (w1 := ?_) (by rfl) rfl ?_ ?_
                           rotate_left
                           ·go_simp
                            rfl
                           refine hK.out _ _ ?_
                           clear hK K
                           refine done_ (done_of HT_.out (by kernel_rfl)) ?_
                           try go_wp2
                           go_roundg k5
                           case measure => have := HJ4.out; have := HK2.out; have := HK3.out; have := HK4.out; have := HK5.out; omega
                           case rel => exact ⟨(y207), (wrap64 (x79_5 + 1)), (by first | rfl | (simp; done) | (simp [*]; done)), H', ⟨by have := HJ4.out; have := HK2.out; have := HK3.out; have := HK4.out; have := HK5.out; omega⟩, ⟨by (with_reducible repeat (first | apply Kd.V_alloc | apply Kd.V_drewN | apply Kd.V_drew)); exact Kd.V_mono (Kd.V_far (p := ⟨go38, (x72_4 : Int).toNat, none⟩) (Kd.V_mono HO_12.out (fun k_ hk => (⟨hk, fun e_ => hk.2 (by rw [e_]; rfl)⟩ : _ ∧ k_ ≠ go38))) (fun _ hk => hk.2) (.int .i64 ji37)) (fun _ hk => ⟨hk.1.1, hk.1.2⟩)⟩, ⟨by (with_reducible repeat (first | apply Kd.R_alloc | apply Kd.R_drewN | apply Kd.R_drew)); exact HQ41.out⟩, ⟨by repeat (first | (with_reducible first | exact HB.out | apply below_alloc | apply pw_below_drewN | apply below_drew1 | refine below_set ?_ GB38.out) | exact HB.out)⟩⟩
                          ·rw [if_neg c36] at H
                           exact absurd H (by simp)
                         ·rw [if_neg c35] at H
                          exact absurd H (by simp)
                        ·rw [if_neg c34] at H
                         exact absurd H (by simp)
                      ·rw [if_neg c32] at H
                       exact absurd H (by simp)
                     ·rw [if_neg c31] at H
                      exact absurd H (by simp)
                    ·rw [if_neg c30] at H
                     have c30b0 : decide (x79_5 < ((rd_L1 l0 x72_4).length : Int)) = false := decide_eq_false c30
                     clear c30
                     have H' := Aside0.mk H
                     clear H
                     go_wp2
                     go_roundg k5
                     case measure => have := HJ4.out; have := HK2.out; have := HK3.out; have := HK4.out; have := HK5.out; omega
                     case rel => exact ⟨(x14_5), (wrap64 (x72_4 + 1)), (by first | rfl | (simp; done) | (simp [*]; done)), H', ⟨by have := HJ4.out; have := HK2.out; have := HK3.out; have := HK4.out; have := HK5.out; omega⟩, ⟨by (with_reducible repeat (first | apply Kd.V_alloc | apply Kd.V_drewN | apply Kd.V_drew)); exact HO_12.out⟩, ⟨by (with_reducible repeat (first | apply Kd.R_alloc | apply Kd.R_drewN | apply Kd.R_drew)); exact HO_14.out⟩, ⟨by repeat (first | (with_reducible first | exact HB.out | apply below_alloc | apply pw_below_drewN | apply below_drew1) | exact HB.out)⟩⟩
                 ·rw [if_neg c29] at H
                  exact absurd H (by simp)
                ·rw [if_neg c28] at H
                 exact absurd H (by simp)
               ·rw [if_neg c27] at H
                have c27b0 : decide (x72_4 < (l0.length : Int)) = false := decide_eq_false c27
                clear c27
                have H' := Aside0.mk H
                clear H
                go_wp2
                go_roundg k4
                case measure => have := HJ4.out; have := HK2.out; have := HK3.out; have := HK4.out; omega
                case rel => exact ⟨(x14_4), (wrap64 (x13_3 + 1)), (by first | rfl | (simp; done) | (simp [*]; done)), H', ⟨by have := HJ4.out; have := HK2.out; have := HK3.out; have := HK4.out; omega⟩, ⟨Kd.V_mono (Kd.R_V (by (with_reducible repeat (first | apply Kd.R_alloc | apply Kd.R_drewN | apply Kd.R_drew)); exact HO_14.out)) (fun k_ hk => by first | exact ⟨(.inr (hk.1)), hk.2⟩ | exact (.inr (hk)))⟩, ⟨by repeat (first | (with_reducible first | exact HB.out | apply below_alloc | apply pw_below_drewN | apply below_drew1) | exact HB.out)⟩⟩
            ·rw [if_neg c23] at H
             exact absurd H (by simp)
           ·rw [if_neg c22] at H
            exact absurd H (by simp)
         ·rw [if_neg c18] at H
          have c18b0 : decide (x13_3 ≤ a3) = false := decide_eq_false c18
          clear c18
          simp only [Option.some.injEq, Prod.mk.injEq] at H
          obtain ⟨rfl, rfl⟩ := H
          go_wp2
          go_ret2
          exact ⟨by first | rfl | (simp [errW_none, errW_some] <;> rfl) | (simp [*, errW_none, errW_some] <;> rfl), by repeat (first | (with_reducible first | exact HB.out | apply below_alloc | apply pw_below_drewN | apply below_drew1) | exact HB.out)⟩

end Go.Proofs.Ytnmhdeibjglhcaa.XAll
