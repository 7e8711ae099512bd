-- This session's own text, written by wip/tools/xprint.py after the form of the kit's print.
import Derived.Test.YtnmhdeibjglhcaaXMaxplusRawx0
import Derived.Test.YtnmhdeibjglhcaaXMaxplusRawx1
import Derived.Test.YtnmhdeibjglhcaaXMaxplusRawx2
namespace Go.Proofs.Ytnmhdeibjglhcaa.XMaxplusRaw
open Go.RowKit Go.Proofs.YtnmhdeibjglhcaaW.PrintWords Go.Proofs.YtnmhdeibjglhcaaW.PrintLast Go.Proofs.YtnmhdeibjglhcaaW.PrintMore
attribute [local go_sem] max2_int min2_int max_two min_two max_three min_three max_four min_four   -- for this text's walks alone
set_option linter.unusedVariables false
set_option linter.unusedSimpArgs false

/-! ### maxplus_Apply: function 27 -/
mutual
def maxplus_Apply.j0 : Nat → List (List Int) → List Int → Bool → Option (List Int × Int)
 | 0, _, _, _ => none
 | k + 1, x0, x1, x22 => if x22 = true then (some (([] : List Int), 1)) else ((maxplus_matrix.f k (x1.length : Int) 1).bind fun t286 => (maxplus_Apply.l0 k x0 t286 x1 (x1.length : Int) 0))
def maxplus_Apply.l0 : Nat → List (List Int) → List (List Int) → List Int → Int → Int → Option (List Int × Int)
 | 0, _, _, _, _, _ => none
 | k + 1, x0, x6, x26, x27, x28 => if x28 < x27 then (if 0 ≤ x28 then (if x28 < (x26.length : Int) then (if x28 < (x6.length : Int) then (if 0 < ((rd_L1 x6 x28).length : Int) then (maxplus_Apply.l0 k x0 (x6.set (x28 : Int).toNat ((rd_L1 x6 x28).set (0 : Int).toNat (rd x26 x28))) x26 x27 (wrap64 (x28 + 1))) else (none)) else (none)) else (none)) else (none)) else ((maxplus_product.f k x0 x6).bind fun t294 => ((maxplus_fits.f k t294).bind fun t297 => (if t297 = true then (if 0 ≤ (t294.length : Int) then (if ((t294.length : Int) : Int).toNat ≤ 35184372088832 then (maxplus_Apply.l1 k (List.replicate ((t294.length : Int) : Int).toNat 0) t294 (t294.length : Int) 0) else (none)) else (none)) else (some (([] : List Int), 8)))))
def maxplus_Apply.l1 : Nat → List Int → List (List Int) → Int → Int → Option (List Int × Int)
 | 0, _, _, _, _ => none
 | k + 1, x10, x49, x50, x51 => if x51 < x50 then (if 0 ≤ x51 then (if x51 < (x49.length : Int) then (if 0 < ((rd_L1 x49 x51).length : Int) then (if x51 < (x10.length : Int) then (maxplus_Apply.l1 k (x10.set (x51 : Int).toNat (rd (rd_L1 x49 x51) 0)) x49 x50 (wrap64 (x51 + 1))) else (none)) else (none)) else (none)) else (none)) else (some (x10, 0))
end
def maxplus_Apply.f (k : Nat) (l0 : List (List Int)) (l1 : List Int) : Option (List Int × Int) := (maxplus_Check.f k l0).bind fun t284 => (if t284 = true then ((maxplus_Vector.f k (l0.length : Int) l1).bind fun t285 => (maxplus_Apply.j0 k l0 l1 (!t285))) else (maxplus_Apply.j0 k l0 l1 true))
theorem maxplus_Apply.mono_l : ∀ k, (∀ y0 y1 y2, LeO (maxplus_Apply.j0 k y0 y1 y2) (maxplus_Apply.j0 (k + 1) y0 y1 y2)) ∧ (∀ y0 y1 y2 y3 y4, LeO (maxplus_Apply.l0 k y0 y1 y2 y3 y4) (maxplus_Apply.l0 (k + 1) y0 y1 y2 y3 y4)) ∧ (∀ y0 y1 y2 y3, LeO (maxplus_Apply.l1 k y0 y1 y2 y3) (maxplus_Apply.l1 (k + 1) y0 y1 y2 y3))
 | 0 => ⟨fun _ _ _ r h => by simp [maxplus_Apply.j0] at h, fun _ _ _ _ _ r h => by simp [maxplus_Apply.l0] at h, fun _ _ _ _ r h => by simp [maxplus_Apply.l1] at h⟩
 | k + 1 => by
  obtain ⟨ih0, ih1, ih2⟩ := maxplus_Apply.mono_l k
  refine ⟨?_, ?_, ?_⟩
  ·intro y0 y1 y2
   unfold maxplus_Apply.j0
   repeat' first
   | (with_reducible exact ih0 _ _ _)
   | (with_reducible exact ih1 _ _ _ _ _)
   | (with_reducible exact ih2 _ _ _ _)
   | (with_reducible exact maxplus_Check.mono _ _)
   | (with_reducible exact maxplus_Vector.mono _ _ _)
   | (with_reducible exact maxplus_fits.mono _ _)
   | (with_reducible exact maxplus_matrix.mono _ _ _)
   | (with_reducible exact maxplus_product.mono _ _ _)
   | (with_reducible exact LeO.refl _)
   | (with_reducible exact LeO.none _)
   | (with_reducible refine LeO.ite ?_ ?_)
   | (with_reducible refine LeO.bind ?_ (fun _ => ?_))
   | exact ih0 _ _ _
   | exact ih1 _ _ _ _ _
   | exact ih2 _ _ _ _
   | exact maxplus_Check.mono _ _
   | exact maxplus_Vector.mono _ _ _
   | exact maxplus_fits.mono _ _
   | exact maxplus_matrix.mono _ _ _
   | exact maxplus_product.mono _ _ _
   | exact LeO.none _
   | refine LeO.ite ?_ ?_
   | refine LeO.bind ?_ (fun _ => ?_)
  ·intro y0 y1 y2 y3 y4
   unfold maxplus_Apply.l0
   repeat' first
   | (with_reducible exact ih0 _ _ _)
   | (with_reducible exact ih1 _ _ _ _ _)
   | (with_reducible exact ih2 _ _ _ _)
   | (with_reducible exact maxplus_Check.mono _ _)
   | (with_reducible exact maxplus_Vector.mono _ _ _)
   | (with_reducible exact maxplus_fits.mono _ _)
   | (with_reducible exact maxplus_matrix.mono _ _ _)
   | (with_reducible exact maxplus_product.mono _ _ _)
   | (with_reducible exact LeO.refl _)
   | (with_reducible exact LeO.none _)
   | (with_reducible refine LeO.ite ?_ ?_)
   | (with_reducible refine LeO.bind ?_ (fun _ => ?_))
   | exact ih0 _ _ _
   | exact ih1 _ _ _ _ _
   | exact ih2 _ _ _ _
   | exact maxplus_Check.mono _ _
   | exact maxplus_Vector.mono _ _ _
   | exact maxplus_fits.mono _ _
   | exact maxplus_matrix.mono _ _ _
   | exact maxplus_product.mono _ _ _
   | exact LeO.none _
   | refine LeO.ite ?_ ?_
   | refine LeO.bind ?_ (fun _ => ?_)
  ·intro y0 y1 y2 y3
   unfold maxplus_Apply.l1
   repeat' first
   | (with_reducible exact ih0 _ _ _)
   | (with_reducible exact ih1 _ _ _ _ _)
   | (with_reducible exact ih2 _ _ _ _)
   | (with_reducible exact maxplus_Check.mono _ _)
   | (with_reducible exact maxplus_Vector.mono _ _ _)
   | (with_reducible exact maxplus_fits.mono _ _)
   | (with_reducible exact maxplus_matrix.mono _ _ _)
   | (with_reducible exact maxplus_product.mono _ _ _)
   | (with_reducible exact LeO.refl _)
   | (with_reducible exact LeO.none _)
   | (with_reducible refine LeO.ite ?_ ?_)
   | (with_reducible refine LeO.bind ?_ (fun _ => ?_))
   | exact ih0 _ _ _
   | exact ih1 _ _ _ _ _
   | exact ih2 _ _ _ _
   | exact maxplus_Check.mono _ _
   | exact maxplus_Vector.mono _ _ _
   | exact maxplus_fits.mono _ _
   | exact maxplus_matrix.mono _ _ _
   | exact maxplus_product.mono _ _ _
   | exact LeO.none _
   | refine LeO.ite ?_ ?_
   | refine LeO.bind ?_ (fun _ => ?_)
theorem maxplus_Apply.mono : ∀ a0 a1 k, LeO (maxplus_Apply.f k a0 a1) (maxplus_Apply.f (k + 1) a0 a1) := by
 intro a0 a1 k
 obtain ⟨ih0, ih1, ih2⟩ := maxplus_Apply.mono_l k
 unfold maxplus_Apply.f
 repeat' first
   | (with_reducible exact ih0 _ _ _)
   | (with_reducible exact ih1 _ _ _ _ _)
   | (with_reducible exact ih2 _ _ _ _)
   | (with_reducible exact maxplus_Check.mono _ _)
   | (with_reducible exact maxplus_Vector.mono _ _ _)
   | (with_reducible exact maxplus_fits.mono _ _)
   | (with_reducible exact maxplus_matrix.mono _ _ _)
   | (with_reducible exact maxplus_product.mono _ _ _)
   | (with_reducible exact LeO.refl _)
   | (with_reducible exact LeO.none _)
   | (with_reducible refine LeO.ite ?_ ?_)
   | (with_reducible refine LeO.bind ?_ (fun _ => ?_))
   | exact ih0 _ _ _
   | exact ih1 _ _ _ _ _
   | exact ih2 _ _ _ _
   | exact maxplus_Check.mono _ _
   | exact maxplus_Vector.mono _ _ _
   | exact maxplus_fits.mono _ _
   | exact maxplus_matrix.mono _ _ _
   | exact maxplus_product.mono _ _ _
   | exact LeO.none _
   | refine LeO.ite ?_ ?_
   | refine LeO.bind ?_ (fun _ => ?_)
set_option maxHeartbeats 8000000 in
set_option maxRecDepth 100000 in
theorem maxplus_Apply.calls (k : Nat) (A0 : Option Addr) (c0 : Nat) (l0 : List (List Int)) (A1 : Option Addr) (c1 : Nat) (l1 : List Int) (r1 : List Int) (r2 : Int) (w : World) (hr0 : Kd.C (Kd.slice 3 (Kd.int .i64)) w A0 l0.length l0) (hc0 : l0.length ≤ c0) (hr1 : Kd.C (Kd.int .i64) w A1 l1.length l1) (hc1 : l1.length ≤ c1) (h : maxplus_Apply.f k l0 l1 = some (r1, r2)) :
  Calls Try.prog 27 #[.slice A0 l0.length c0, .slice A1 l1.length c1] w fun e w' => ∃ v0_ : Value, e = .returned (.tuple #[v0_, .int .i64 r2]) ∧ Kd.R (Kd.int .i64) 3 w' w.heap.size (fun _ => True) v0_ r1 ∧ Below w.heap.size w w' := by
 have HR0 := Aside0.mk hr0
 have HC0 := Aside0.mk hc0
 clear hr0 hc0
 have HR1 := Aside0.mk hr1
 have HC1 := Aside0.mk hc1
 clear hr1 hc1
 have HB := Aside0.mk (Below.refl w.heap.size w)
 have H : ((maxplus_Check.f k l0).bind fun t284 => (if t284 = true then ((maxplus_Vector.f k (l0.length : Int) l1).bind fun t285 => (maxplus_Apply.j0 k l0 l1 (!t285))) else (maxplus_Apply.j0 k l0 l1 true))) = some (r1, r2) := h
 clear h
 have HC3 := Aside0.mk H
 clear H
 go_enter Try.func27, Try.ntmps27
 go_upto_region 1 with (fail)
 go_cut [22] (fun v22 wc => ∃ (kq : Nat) (x22_2 : Bool), v22 = .bool x22_2 ∧ Aside0 (maxplus_Apply.j0 kq l0 l1 x22_2 = some (r1, r2)) ∧ Aside0 (kq ≤ k) ∧ Aside0 (Below w.heap.size w wc))
 case first =>
  have H := HC3.out
  clear HC3
  replace H := Option.bind_eq_some_iff.mp H
  obtain ⟨t284, A40, H⟩ := H
  replace H : (if t284 = true then ((maxplus_Vector.f k (l0.length : Int) l1).bind fun t285 => (maxplus_Apply.j0 k l0 l1 (!t285))) else (maxplus_Apply.j0 k l0 l1 true)) = some (r1, r2) := H
  have A4 := Aside0.mk A40
  clear A40
  by_cases c5 : t284 = true
  ·subst c5
   have H1 : ((maxplus_Vector.f k (l0.length : Int) l1).bind fun t285 => (maxplus_Apply.j0 k l0 l1 (!t285))) = some (r1, r2) := by rw [if_pos rfl] at H; exact H
   clear H
   have H := H1
   clear H1
   replace H := Option.bind_eq_some_iff.mp H
   obtain ⟨t285, A60, H⟩ := H
   replace H : (maxplus_Apply.j0 k l0 l1 (!t285)) = some (r1, r2) := H
   have A6 := Aside0.mk A60
   clear A60
   have H' := Aside0.mk H
   clear H
   go_wp2_with (first | ((with_reducible refine gate_callee (f := 30) rfl ?_); refine goesL_ (some 14) rfl rfl Try.func30 (by kernel_rfl) rfl #[.slice A0 l0.length c0] rfl (by (try simp only [List.map_toArray, List.map_cons, List.map_nil]); first | done | rfl | (simp only [List.length_drop, List.length_take]; rfl)) ?_; (with_reducible refine (maxplus_Check.calls k _ _ l0 true _ ?side1 ?side2 A4.out).mono ?_); (case side1 => repeat (first | exact (Kd.C_below HR0.out HB.out) | (with_reducible refine Kd.C_alloc ?_ _) | (with_reducible refine Kd.C_drewN ?_ _) | (with_reducible refine Kd.C_drew ?_))); (case side2 => exact HC0.out); rintro e w' ⟨rfl, ⟨nd, rfl⟩⟩; refine ⟨_, rfl, ?_⟩) | (go_at_call 32; (with_reducible refine (maxplus_Vector.calls k (l0.length : Int) _ _ l1 t285 _ ?side1 ?side2 A6.out).mono ?_); (case side1 => repeat (first | exact (Kd.C_below HR1.out (by repeat (first | (with_reducible first | exact HB.out | apply below_alloc | apply pw_below_drewN | apply below_drew1) | exact HB.out))) | (with_reducible refine Kd.C_alloc ?_ _) | (with_reducible refine Kd.C_drewN ?_ _) | (with_reducible refine Kd.C_drew ?_))); (case side2 => exact HC1.out); rintro e w' ⟨rfl, ⟨nd, rfl⟩⟩))
   go_meet
   case rel => exact ⟨_, (!t285), (by first | rfl | (simp; done) | (simp [*]; done)), H', ⟨by first | omega | exact Nat.le_refl _⟩, ⟨by repeat (first | (with_reducible first | exact HB.out | apply below_alloc | apply pw_below_drewN | apply below_drew1) | exact HB.out)⟩⟩
  ·replace c5 := Bool.eq_false_iff.mpr c5
   subst c5
   have H1 : (maxplus_Apply.j0 k l0 l1 true) = some (r1, r2) := by rw [if_neg (show ¬ (false = true) by decide)] at H; exact H
   clear H
   have H := H1
   clear H1
   have H' := Aside0.mk H
   clear H
   go_wp2_with (first | ((with_reducible refine gate_callee (f := 30) rfl ?_); refine goesL_ (some 14) rfl rfl Try.func30 (by kernel_rfl) rfl #[.slice A0 l0.length c0] rfl (by (try simp only [List.map_toArray, List.map_cons, List.map_nil]); first | done | rfl | (simp only [List.length_drop, List.length_take]; rfl)) ?_; (with_reducible refine (maxplus_Check.calls k _ _ l0 false _ ?side1 ?side2 A4.out).mono ?_); (case side1 => repeat (first | exact (Kd.C_below HR0.out HB.out) | (with_reducible refine Kd.C_alloc ?_ _) | (with_reducible refine Kd.C_drewN ?_ _) | (with_reducible refine Kd.C_drew ?_))); (case side2 => exact HC0.out); rintro e w' ⟨rfl, ⟨nd, rfl⟩⟩; refine ⟨_, rfl, ?_⟩))
   go_meet
   case rel => exact ⟨_, (true), (by first | rfl | (simp; done) | (simp [*]; done)), H', ⟨by first | omega | exact Nat.le_refl _⟩, ⟨by repeat (first | (with_reducible first | exact HB.out | apply below_alloc | apply pw_below_drewN | apply below_drew1) | exact HB.out)⟩⟩
 case rest =>
  clear HC3
  try clear c1
  try clear c2
  try clear p2
  try clear c3
  try clear c5
  obtain ⟨kq, x22_2, rfl, HA, HJ2, HB⟩ := hcut
  cases kq with
  | zero => exact absurd HA.out (by simp [maxplus_Apply.j0])
  | succ kj2 =>
   have H := HA.out
   clear HA
   simp only [maxplus_Apply.j0] at H
   by_cases c7 : x22_2 = true
   ·subst c7
    have H1 : (some (([] : List Int), 1)) = some (r1, r2) := by rw [if_pos rfl] at H; exact H
    clear H
    have H := H1
    clear H1
    simp only [Option.some.injEq, Prod.mk.injEq] at H
    obtain ⟨rfl, rfl⟩ := H
    go_wp2
    go_ret2
    exact ⟨_, by first | rfl | (simp [errW_none, errW_some] <;> rfl) | (simp [*, errW_none, errW_some] <;> rfl), by first | exact Kd.R_nil _ _ _ _ _ | exact Kd.N_nil _ _ _ _ _ | exact Kd.V_nil _ _ _ _ _ | exact Kd.Q_nil _ _ _ _ _ | exact Kd.S_nil _ _ _ _ _, by repeat (first | (with_reducible first | exact HB.out | apply below_alloc | apply pw_below_drewN | apply below_drew1) | exact HB.out)⟩
   ·replace c7 := Bool.eq_false_iff.mpr c7
    subst c7
    have H1 : ((maxplus_matrix.f kj2 (l1.length : Int) 1).bind fun t286 => (maxplus_Apply.l0 kj2 l0 t286 l1 (l1.length : Int) 0)) = some (r1, r2) := by rw [if_neg (show ¬ (false = true) by decide)] at H; exact H
    clear H
    have H := H1
    clear H1
    replace H := Option.bind_eq_some_iff.mp H
    obtain ⟨t286, A80, H⟩ := H
    replace H : (maxplus_Apply.l0 kj2 l0 t286 l1 (l1.length : Int) 0) = some (r1, r2) := H
    have A8 := Aside0.mk A80
    clear A80
    have H' := Aside0.mk H
    clear H
    go_wp2_with (first | ((with_reducible refine gate_callee (f := 41) rfl ?_); refine goesL_ (some 25) rfl rfl Try.func41 (by kernel_rfl) rfl #[.int .i64 (l1.length : Int), .int .i64 1] rfl (by (try simp only [List.map_toArray, List.map_cons, List.map_nil]); first | done | rfl | (simp only [List.length_drop, List.length_take]; rfl)) ?_; (with_reducible refine (maxplus_matrix.calls kj2 (l1.length : Int) 1 t286 _ A8.out).mono ?_); rintro e w9 ⟨v287, rfl, ho0, hb⟩; refine ⟨_, rfl, ?_⟩; have n0_ := Aside0.mk (Kd.S_lower ho0 (below_size (by repeat (first | (with_reducible first | exact HB.out | apply below_alloc | apply pw_below_drewN | apply below_drew1) | exact HB.out)))); have n1_ := Aside0.mk (below_step (by repeat (first | (with_reducible first | exact HB.out | apply below_alloc | apply pw_below_drewN | apply below_drew1) | exact HB.out)) hb); clear HB; have HO288 := n0_; have HB := n1_; clear n0_ n1_; (try clear hb); (try clear hb2); (try clear hk); (try clear hi); (try clear ho0)))
    go_loopg [28] kj2 (fun kq v28 w' => ∃ (x6_2 : List (List Int)) (x28_2 : Int), v28 = .int .i64 x28_2 ∧ Aside0 (maxplus_Apply.l0 kq l0 x6_2 l1 (l1.length : Int) x28_2 = some (r1, r2)) ∧ Aside0 (kq ≤ kj2) ∧ Aside0 (Kd.S (Kd.slice 3 (Kd.int .i64)) 22 w' w.heap.size (fun _ => True) v287 x6_2) ∧ Aside0 (Below w.heap.size w w'))
    case atStart => exact ⟨(t286), (0), (by first | rfl | (simp; done) | (simp [*]; done)), H', ⟨Nat.le_refl _⟩, ⟨by (with_reducible repeat (first | apply Kd.S_alloc | apply Kd.S_drewN | apply Kd.S_drew)); exact HO288.out⟩, ⟨by repeat (first | (with_reducible first | exact HB.out | apply below_alloc | apply pw_below_drewN | apply below_drew1) | exact HB.out)⟩⟩
    case round =>
     clear H'
     try clear c1
     try clear c2
     try clear p2
     try clear c3
     try clear c4
     try clear c5
     try clear c7
     try clear p2
     obtain ⟨x6_2, x28_2, rfl, HA, HK2, HO_6, HB⟩ := hrel
     cases gk with
     | zero => exact absurd HA.out (by simp [maxplus_Apply.l0])
     | succ k2 =>
      have H := HA.out
      clear HA
      simp only [maxplus_Apply.l0] at H
      by_cases c10 : x28_2 < (l1.length : Int)
      ·rw [if_pos c10] at H
       have c10b0 : decide (x28_2 < (l1.length : Int)) = true := decide_eq_true c10
       clear c10
       by_cases c11 : 0 ≤ x28_2
       ·rw [if_pos c11] at H
        have c11b0 : decide (0 ≤ x28_2) = true := decide_eq_true c11
        clear c11
        by_cases c12 : x28_2 < (l1.length : Int)
        ·rw [if_pos c12] at H
         have c12b0 : decide (x28_2 < (l1.length : Int)) = true := decide_eq_true c12
         clear c12
         by_cases c13 : x28_2 < (x6_2.length : Int)
         ·rw [if_pos c13] at H
          have c13b0 : decide (x28_2 < (x6_2.length : Int)) = true := decide_eq_true c13
          clear c13
          by_cases c14 : 0 < ((rd_L1 x6_2 x28_2).length : Int)
          ·rw [if_pos c14] at H
           have c14b0 : decide (0 < ((rd_L1 x6_2 x28_2).length : Int)) = true := decide_eq_true c14
           have c14b1 : decide (0 < (rd_L1 x6_2 x28_2).length) = true := decide_eq_true (by omega)
           clear c14
           obtain ⟨y291, hy291⟩ : ∃ y_ : List Int, y_ = ((rd_L1 x6_2 x28_2).set (0 : Int).toNat (rd l1 x28_2)) := ⟨_, rfl⟩
           replace H : (maxplus_Apply.l0 k2 l0 (x6_2.set (x28_2 : Int).toNat y291) l1 (l1.length : Int) (wrap64 (x28_2 + 1))) = some (r1, r2) := by first | (rw [hy291]; with_reducible exact H) | (have H2_ := (Option.bind_some _ _).symm.trans H; rw [hy291]; with_reducible exact H2_) | (have H2_ := (Option.bind_some _ _).symm.trans H; with_reducible exact H2_) | with_reducible exact H | (rw [hy291]; exact H) | exact H
           have Ny291 := Aside0.mk hy291
           clear hy291
           obtain ⟨y293, hy293⟩ : ∃ y_ : List (List Int), y_ = (x6_2.set (x28_2 : Int).toNat y291) := ⟨_, rfl⟩
           replace H : (maxplus_Apply.l0 k2 l0 y293 l1 (l1.length : Int) (wrap64 (x28_2 + 1))) = some (r1, r2) := by first | (rw [hy293]; with_reducible exact H) | (have H2_ := (Option.bind_some _ _).symm.trans H; rw [hy293]; with_reducible exact H2_) | (have H2_ := (Option.bind_some _ _).symm.trans H; with_reducible exact H2_) | with_reducible exact H | (rw [hy293]; exact H) | exact H
           have Ny293 := Aside0.mk hy293
           clear hy293
           have H' := Aside0.mk H
           clear H
           have p289 : 0 ≤ (x28_2 : Int) := of_decide_eq_true (by first | (with_reducible assumption) | assumption)
           have q289 : x28_2 < (l1.length : Int) := of_decide_eq_true (by first | (with_reducible assumption) | assumption)
           obtain ⟨ad289, e289, hx289_0⟩ := Kd.at_int HR1.out x28_2 p289 q289
           cases e289
           replace hx289_0 := (HB.out.cell (World.block_lt_of_cell? w _ hx289_0)).trans hx289_0
           replace p289 := eq_true p289
           replace q289 := eq_true q289
           obtain ⟨Ao16, co16, eo16⟩ := Kd.S_slice HO_6.out
           subst eo16
           have p290 : 0 ≤ (x28_2 : Int) := of_decide_eq_true (by first | (with_reducible assumption) | assumption)
           have q290 : x28_2 < (x6_2.length : Int) := of_decide_eq_true (by first | (with_reducible assumption) | assumption)
           obtain ⟨ad290, A290_0, c290_0, e290, hx290_0, hl290_0, hi290_0⟩ := at_L1 (Kd.S_reads' HO_6.out).2.2 x28_2 p290 q290
           cases e290
           obtain ⟨ce290, hce290, hMe290, hcc290⟩ := Kd.S_get HO_6.out [] x28_2 p290 (by first | exact q290 | exact of_decide_eq_true (by first | (with_reducible assumption) | assumption) | (have e_ := (Kd.S_reads' HO_6.out).1; omega))
           obtain ⟨ve290_0, rfl, ge290_0⟩ := hMe290
           have hv290_0 := hcc290 0 _ rfl
           rw [Nat.add_zero, show ((Kd.slice 3 (Kd.int .i64))).sz = 1 from rfl, Nat.mul_one] at hv290_0
           replace hv290_0 := Option.some.inj (hv290_0.symm.trans hx290_0)
           rw [hv290_0] at ge290_0
           have HL290_0 := Aside0.mk (show Kd.R (Kd.int .i64) 3 _ _ _ _ (rd_L1 x6_2 x28_2) from ge290_0)
           clear hv290_0 ge290_0
           have HX290_0 := Aside0.mk hx290_0
           clear hcc290 hce290
           have HR290_0 := Aside0.mk hi290_0
           have HC290_0 := Aside0.mk hl290_0
           clear hi290_0 hl290_0
           replace p290 := eq_true p290
           replace q290 := eq_true q290
           have p15 : 0 ≤ (0 : Int) := (by omega)
           have q15 : (0 : Int) < (((rd_L1 x6_2 x28_2).length : Int) : Int) := of_decide_eq_true (by first | (with_reducible assumption) | assumption)
           have qi15 : (0 < (rd_L1 x6_2 x28_2).length) = True := eq_true (by omega)
           obtain ⟨go15, co15, eo15, gb15, gl15, cl15, HG15⟩ := Kd.R_form HL290_0.out (by omega)
           (first | cases eo15 | (injection eo15 with ea_ en_ ec_; (first | subst ea_ | (injection ea_ with ea_; subst ea_)); subst ec_; clear en_))
           have GB15 := Aside0.mk gb15
           have GG15 := Aside0.mk HG15
           clear gb15 gl15 HG15
           obtain ⟨hx15_0, hf15_0⟩ := Kd.R_celln 0 HL290_0.out (0 : Int) p15 q15
           (try rw [show ((0 : Int)).toNat = 0 from rfl] at hx15_0)
           (try simp only [Nat.reduceMul, Nat.zero_mul, Nat.zero_add, Nat.reduceAdd] at hx15_0)
           (try rw [show ((0 : Int)).toNat = 0 from rfl] at hf15_0)
           (try simp only [Nat.reduceMul, Nat.zero_mul, Nat.zero_add, Nat.reduceAdd] at hf15_0)
           replace p15 := eq_true p15
           replace q15 := eq_true q15
           have hq17 : (x28_2 : Int) < (x6_2.length : Int) := (by have h_ : (x28_2 : Int) < ((x6_2.length : Int) : Int) := of_decide_eq_true (by first | (with_reducible assumption) | assumption); first | exact h_ | (have e_ := (Kd.S_reads' HO_6.out).1; omega) | simpa only [List.length_set, List.length_set] using h_)
           obtain ⟨oki17, ce17, hcl17, hM17, hcc17, hok17, hbk17⟩ := Kd.S_borrow HO_6.out [] (x28_2 : Int) (of_decide_eq_true (by first | (with_reducible assumption) | assumption)) hq17
           obtain ⟨ve17_0, rfl, ge17_0⟩ := hM17
           have hv17 := hcc17 0 _ rfl
           rw [Nat.add_zero, show ((Kd.slice 3 (Kd.int .i64))).sz = 1 from rfl, Nat.mul_one] at hv17
           replace hv17 := Option.some.inj (hv17.symm.trans HX290_0.out)
           subst hv17
           clear hcc17 hcl17
           replace ge17_0 := (show Kd.R (Kd.int .i64) 3 _ _ _ _ (rd_L1 x6_2 x28_2) from ge17_0)
           have HP17 := Kd.R_putg ge17_0 (0 : Int) (rd l1 x28_2)
           go_wp2_with (first | ((with_reducible refine gate_store (t := 3) (p := 38) rfl ?_); refine store_event (t := 3) (p := 38) (v := ?vo_w18) (w1 := (wr.setCell ⟨go15, 0, none⟩ (.int .i64 (rd l1 x28_2)))) ?hg ?ho ?hn ?hr ?_; (case ho => rfl); (case hg => rfl); (case hn => rfl); (case hr => first | (go_simp; done) | (go_simp; rfl)); intro w18 hw; have hg : wr.grownBy w18 (some go15) := (by rw [hw]; exact HP17.2); have hz_ : Kd.R (Kd.int .i64) 3 w18 w.heap.size oki17 (.slice (some ⟨go15, 0, none⟩) (rd_L1 x6_2 x28_2).length c290_0) y291 := (by rw [hw, Ny291.out]; exact HP17.1); have hp_ : Kd.S (Kd.slice 3 (Kd.int .i64)) 22 w18 w.heap.size (fun _ => True) (.slice (some ad290) x6_2.length co16) y293 := (by rw [Ny293.out]; exact hbk17 hg (fun k_ e_ => by injection e_ with e_; subst e_; exact ge17_0.1 _ rfl) (Kd.M_row hz_)); have hm_ := Kd.R_mono hz_ hok17; clear HP17 hbk17; have n0_ := Aside0.mk (hp_); have n1_ := Aside0.mk ((by rw [hw]; exact below_set (HB.out) GB15.out : Below w.heap.size w w18)); have n2_ := Aside0.mk (hm_); have n3_ := Aside0.mk ((Kd.R_reads' hm_).2.1); clear HO_6; clear HB; clear HL290_0; have HO_6 := n0_; have HB := n1_; have HL304 := n2_; have HC292 := n3_; clear n0_ n1_ n2_ n3_; clear hg hw hp_ hz_ hm_ hok17))
           go_roundg k2
           case measure => have := HJ2.out; have := HK2.out; omega
           case rel => exact ⟨(y293), (wrap64 (x28_2 + 1)), (by first | rfl | (simp; done) | (simp [*]; done)), H', ⟨by have := HJ2.out; have := HK2.out; omega⟩, ⟨by (with_reducible repeat (first | apply Kd.S_alloc | apply Kd.S_drewN | apply Kd.S_drew)); exact HO_6.out⟩, ⟨by repeat (first | (with_reducible first | exact HB.out | apply below_alloc | apply pw_below_drewN | apply below_drew1) | exact HB.out)⟩⟩
          ·rw [if_neg c14] at H
           exact absurd H (by simp)
         ·rw [if_neg c13] at H
          exact absurd H (by simp)
        ·rw [if_neg c12] at H
         exact absurd H (by simp)
       ·rw [if_neg c11] at H
        exact absurd H (by simp)
      ·rw [if_neg c10] at H
       have c10b0 : decide (x28_2 < (l1.length : Int)) = false := decide_eq_false c10
       clear c10
       replace H := Option.bind_eq_some_iff.mp H
       obtain ⟨t294, A190, H⟩ := H
       replace H : ((maxplus_fits.f k2 t294).bind fun t297 => (if t297 = true then (if 0 ≤ (t294.length : Int) then (if ((t294.length : Int) : Int).toNat ≤ 35184372088832 then (maxplus_Apply.l1 k2 (List.replicate ((t294.length : Int) : Int).toNat 0) t294 (t294.length : Int) 0) else (none)) else (none)) else (some (([] : List Int), 8)))) = some (r1, r2) := H
       have A19 := Aside0.mk A190
       clear A190
       replace H := Option.bind_eq_some_iff.mp H
       obtain ⟨t297, A200, H⟩ := H
       replace H : (if t297 = true then (if 0 ≤ (t294.length : Int) then (if ((t294.length : Int) : Int).toNat ≤ 35184372088832 then (maxplus_Apply.l1 k2 (List.replicate ((t294.length : Int) : Int).toNat 0) t294 (t294.length : Int) 0) else (none)) else (none)) else (some (([] : List Int), 8))) = some (r1, r2) := H
       have A20 := Aside0.mk A200
       clear A200
       by_cases c21 : t297 = true
       ·subst c21
        have H1 : (if 0 ≤ (t294.length : Int) then (if ((t294.length : Int) : Int).toNat ≤ 35184372088832 then (maxplus_Apply.l1 k2 (List.replicate ((t294.length : Int) : Int).toNat 0) t294 (t294.length : Int) 0) else (none)) else (none)) = some (r1, r2) := by rw [if_pos rfl] at H; exact H
        clear H
        have H := H1
        clear H1
        by_cases c22 : 0 ≤ (t294.length : Int)
        ·rw [if_pos c22] at H
         have c22b0 := eq_true c22
         have c22b1 : decide (0 ≤ (t294.length : Int)) = true := decide_eq_true c22
         clear c22
         by_cases c23 : ((t294.length : Int) : Int).toNat ≤ 35184372088832
         ·rw [if_pos c23] at H
          have c23b0 := eq_true c23
          have c23b1 : decide (((t294.length : Int) : Int).toNat ≤ 35184372088832) = true := decide_eq_true c23
          clear c23
          obtain ⟨y298, hy298⟩ : ∃ y_ : List Int, y_ = (List.replicate ((t294.length : Int) : Int).toNat 0) := ⟨_, rfl⟩
          replace H : (maxplus_Apply.l1 k2 y298 t294 (t294.length : Int) 0) = some (r1, r2) := by first | (rw [hy298]; with_reducible exact H) | (have H2_ := (Option.bind_some _ _).symm.trans H; rw [hy298]; with_reducible exact H2_) | (have H2_ := (Option.bind_some _ _).symm.trans H; with_reducible exact H2_) | with_reducible exact H | (rw [hy298]; exact H) | exact H
          have Ny298 := Aside0.mk hy298
          clear hy298
          have H' := Aside0.mk H
          clear H
          obtain ⟨Ao24, co24, eo24⟩ := Kd.S_slice HO_6.out
          subst eo24
          go_wp2_with (first | ((with_reducible refine gate_callee (f := 42) rfl ?_); refine goesL_ (some 42) rfl rfl Try.func42 (by kernel_rfl) rfl #[.slice A0 l0.length c0, .slice Ao24 x6_2.length co24] rfl (by (try simp only [List.map_toArray, List.map_cons, List.map_nil]); first | done | rfl | (simp only [List.length_drop, List.length_take]; rfl)) ?_; (with_reducible refine (maxplus_product.calls k2 _ _ l0 _ _ x6_2 t294 _ ?side1 ?side2 ?side3 ?side4 A19.out).mono ?_); (case side1 => repeat (first | exact (Kd.C_below HR0.out HB.out) | (with_reducible refine Kd.C_alloc ?_ _) | (with_reducible refine Kd.C_drewN ?_ _) | (with_reducible refine Kd.C_drew ?_))); (case side2 => exact HC0.out); (case side3 => repeat (first | exact (Kd.S_reads' HO_6.out).2.2 | (with_reducible refine Kd.C_alloc ?_ _) | (with_reducible refine Kd.C_drewN ?_ _) | (with_reducible refine Kd.C_drew ?_))); (case side4 => exact (Kd.S_reads' HO_6.out).2.1); rintro e w25 ⟨v295, rfl, ho0, hb⟩; refine ⟨_, rfl, ?_⟩; have n0_ := Aside0.mk (Kd.S_elder' (by (with_reducible repeat (first | apply Kd.S_alloc | apply Kd.S_drewN | apply Kd.S_drew)); exact HO_6.out) (by first | exact Kd.N_base ho0 | exact Kd.S_base ho0 | exact Kd.R_base ho0 | exact Kd.Q_base ho0) hb); have n1_ := Aside0.mk (Kd.S_lower (Kd.S_new' ho0 (Kd.S_lt (by (with_reducible repeat (first | apply Kd.S_alloc | apply Kd.S_drewN | apply Kd.S_drew)); exact HO_6.out))) (below_size (by repeat (first | (with_reducible first | exact HB.out | apply below_alloc | apply pw_below_drewN | apply below_drew1) | exact HB.out)))); have n2_ := Aside0.mk (below_step (by repeat (first | (with_reducible first | exact HB.out | apply below_alloc | apply pw_below_drewN | apply below_drew1) | exact HB.out)) hb); clear HO_6; clear HB; have HO_6 := n0_; have HO296 := n1_; have HB := n2_; clear n0_ n1_ n2_; (try clear hb); (try clear hb2); (try clear hk); (try clear hi); (try clear ho0); obtain ⟨Ao26, co26, eo26⟩ := Kd.S_slice HO296.out; subst eo26) | ((with_reducible refine gate_callee (f := 43) rfl ?_); refine goesL_ (some 44) rfl rfl Try.func43 (by kernel_rfl) rfl #[.slice Ao26 t294.length co26] rfl (by (try simp only [List.map_toArray, List.map_cons, List.map_nil]); first | done | rfl | (simp only [List.length_drop, List.length_take]; rfl)) ?_; (with_reducible refine (maxplus_fits.calls k2 _ _ t294 true _ ?side1 ?side2 A20.out).mono ?_); (case side1 => repeat (first | exact (Kd.S_reads' HO296.out).2.2 | (with_reducible refine Kd.C_alloc ?_ _) | (with_reducible refine Kd.C_drewN ?_ _) | (with_reducible refine Kd.C_drew ?_))); (case side2 => exact (Kd.S_reads' HO296.out).2.1); rintro e w' ⟨rfl, ⟨nd, rfl⟩⟩; refine ⟨_, rfl, ?_⟩) | ((with_reducible refine gate_dst (N := 48) rfl ?_); (try (refine gate_guard (by rfl) ?_; dsimp only)); refine Kd.R_make (Kd.int .i64) _ 3 rfl (N := 48) rfl 22 _ _ rfl (t294.length : Int) rfl rfl Try.underlying22 (.int .i64 0) 8 info3 rfl (by decide) (by omega) 0 (ok := fun _ => True) (okp := fun _ => True) rfl (fun _ hk => hk) trivial (of_decide_eq_true (by first | (with_reducible assumption) | assumption)) (Nat.le_trans (Nat.mul_le_mul_right _ (of_decide_eq_true (by first | (with_reducible assumption) | assumption) : (t294.length : Int).toNat ≤ 35184372088832)) (by omega)) (Below.refl _ _) (Nat.le_refl _) ?_; intro v299 w27 ho28 hb hg_ hnew_; clear hg_ hnew_; (first | rw [← Ny298.out] at ho28 | (simp only [Int.reduceToNat] at ho28; rw [← Ny298.out] at ho28)); have n0_ := Aside0.mk (Kd.S_elder' (by (with_reducible repeat (first | apply Kd.S_alloc | apply Kd.S_drewN | apply Kd.S_drew)); exact HO_6.out) (by first | exact Kd.N_base ho28 | exact Kd.S_base ho28 | exact Kd.R_base ho28 | exact Kd.Q_base ho28) hb); have n1_ := Aside0.mk (Kd.S_elder' (by (with_reducible repeat (first | apply Kd.S_alloc | apply Kd.S_drewN | apply Kd.S_drew)); exact HO296.out) (by first | exact Kd.N_base ho28 | exact Kd.S_base ho28 | exact Kd.R_base ho28 | exact Kd.Q_base ho28) hb); have n2_ := Aside0.mk (Kd.R_lower ho28 (below_size (by repeat (first | (with_reducible first | exact HB.out | apply below_alloc | apply pw_below_drewN | apply below_drew1) | exact HB.out)))); have n3_ := Aside0.mk (below_step (by repeat (first | (with_reducible first | exact HB.out | apply below_alloc | apply pw_below_drewN | apply below_drew1) | exact HB.out)) hb); clear HO_6; clear HO296; clear HB; have HO_6 := n0_; have HO296 := n1_; have HO300 := n2_; have HB := n3_; clear n0_ n1_ n2_ n3_; clear hb ho28))
          go_loopg [51] k2 (fun kq v51 w' => ∃ (x10_3 : List Int) (x51_3 : Int), v51 = .int .i64 x51_3 ∧ Aside0 (maxplus_Apply.l1 kq x10_3 t294 (t294.length : Int) x51_3 = some (r1, r2)) ∧ Aside0 (kq ≤ k2) ∧ Aside0 (Kd.R (Kd.int .i64) 3 w' w.heap.size (fun _ => True) v299 x10_3) ∧ Aside0 (Kd.S (Kd.slice 3 (Kd.int .i64)) 22 w' w.heap.size (fun k_ => some k_ ≠ (v299 : Value).ownBlock) (.slice Ao26 t294.length co26) t294) ∧ Aside0 (Below w.heap.size w w'))
          case atStart => exact ⟨(y298), (0), (by first | rfl | (simp; done) | (simp [*]; done)), H', ⟨Nat.le_refl _⟩, ⟨by (with_reducible repeat (first | apply Kd.R_alloc | apply Kd.R_drewN | apply Kd.R_drew)); exact HO300.out⟩, ⟨by (with_reducible repeat (first | apply Kd.S_alloc | apply Kd.S_drewN | apply Kd.S_drew)); exact Kd.S_mono HO296.out (fun _ hk => hk.2)⟩, ⟨by repeat (first | (with_reducible first | exact HB.out | apply below_alloc | apply pw_below_drewN | apply below_drew1) | exact HB.out)⟩⟩
          case round =>
           clear H'
           try clear c1
           try clear p1
           try clear q1
           try clear hx1
           try clear qi1
           try clear c2
           try clear p2
           try clear q2
           try clear hx2
           try clear c3
           try clear c4
           try clear c5
           try clear p6
           try clear c7
           try clear c10
           try clear c10b0
           try clear c11
           try clear c11b0
           try clear c12
           try clear c12b0
           try clear c13
           try clear c13b0
           try clear c14
           try clear c14b0
           try clear c14b1
           try clear p15
           try clear q15
           try clear hx15
           try clear qi15
           try clear hf15
           try clear c17
           try clear q17
           try clear c21
           try clear c22
           try clear c22b0
           try clear c22b1
           try clear c23
           try clear c23b0
           try clear c23b1
           try clear c27
           try clear p28
           try clear q28
           try clear hx28
           try clear hx15_0
           try clear hx289_0
           try clear hx290_0
           try clear p15
           try clear p2
           try clear p289
           try clear p290
           try clear q15
           try clear q289
           try clear q290
           obtain ⟨x10_3, x51_3, rfl, HA, HK3, HO_10, HO_49, HB⟩ := hrel
           cases gk with
           | zero => exact absurd HA.out (by simp [maxplus_Apply.l1])
           | succ k3 =>
            have H := HA.out
            clear HA
            simp only [maxplus_Apply.l1] at H
            by_cases c29 : x51_3 < (t294.length : Int)
            ·rw [if_pos c29] at H
             have c29b0 : decide (x51_3 < (t294.length : Int)) = true := decide_eq_true c29
             clear c29
             by_cases c30 : 0 ≤ x51_3
             ·rw [if_pos c30] at H
              have c30b0 : decide (0 ≤ x51_3) = true := decide_eq_true c30
              clear c30
              by_cases c31 : x51_3 < (t294.length : Int)
              ·rw [if_pos c31] at H
               have c31b0 : decide (x51_3 < (t294.length : Int)) = true := decide_eq_true c31
               clear c31
               by_cases c32 : 0 < ((rd_L1 t294 x51_3).length : Int)
               ·rw [if_pos c32] at H
                have c32b0 : decide (0 < ((rd_L1 t294 x51_3).length : Int)) = true := decide_eq_true c32
                have c32b1 : decide (0 < (rd_L1 t294 x51_3).length) = true := decide_eq_true (by omega)
                clear c32
                by_cases c33 : x51_3 < (x10_3.length : Int)
                ·rw [if_pos c33] at H
                 have c33b0 : decide (x51_3 < (x10_3.length : Int)) = true := decide_eq_true c33
                 clear c33
                 obtain ⟨y303, hy303⟩ : ∃ y_ : List Int, y_ = (x10_3.set (x51_3 : Int).toNat (rd (rd_L1 t294 x51_3) 0)) := ⟨_, rfl⟩
                 replace H : (maxplus_Apply.l1 k3 y303 t294 (t294.length : Int) (wrap64 (x51_3 + 1))) = some (r1, r2) := by first | (rw [hy303]; with_reducible exact H) | (have H2_ := (Option.bind_some _ _).symm.trans H; rw [hy303]; with_reducible exact H2_) | (have H2_ := (Option.bind_some _ _).symm.trans H; with_reducible exact H2_) | with_reducible exact H | (rw [hy303]; exact H) | exact H
                 have Ny303 := Aside0.mk hy303
                 clear hy303
                 have H' := Aside0.mk H
                 clear H
                 have p301 : 0 ≤ (x51_3 : Int) := of_decide_eq_true (by first | (with_reducible assumption) | assumption)
                 have q301 : x51_3 < (t294.length : Int) := of_decide_eq_true (by first | (with_reducible assumption) | assumption)
                 obtain ⟨ad301, A301_0, c301_0, e301, hx301_0, hl301_0, hi301_0⟩ := at_L1 (Kd.S_reads' HO_49.out).2.2 x51_3 p301 q301
                 cases e301
                 obtain ⟨ce301, hce301, hMe301, hcc301⟩ := Kd.S_get HO_49.out [] x51_3 p301 (by first | exact q301 | exact of_decide_eq_true (by first | (with_reducible assumption) | assumption) | (have e_ := (Kd.S_reads' HO_49.out).1; omega))
                 obtain ⟨ve301_0, rfl, ge301_0⟩ := hMe301
                 have hv301_0 := hcc301 0 _ rfl
                 rw [Nat.add_zero, show ((Kd.slice 3 (Kd.int .i64))).sz = 1 from rfl, Nat.mul_one] at hv301_0
                 replace hv301_0 := Option.some.inj (hv301_0.symm.trans hx301_0)
                 rw [hv301_0] at ge301_0
                 have HL301_0 := Aside0.mk (show Kd.R (Kd.int .i64) 3 _ _ _ _ (rd_L1 t294 x51_3) from ge301_0)
                 clear hv301_0 ge301_0
                 have HX301_0 := Aside0.mk hx301_0
                 clear hcc301 hce301
                 have HR301_0 := Aside0.mk hi301_0
                 have HC301_0 := Aside0.mk hl301_0
                 clear hi301_0 hl301_0
                 replace p301 := eq_true p301
                 replace q301 := eq_true q301
                 have p302 : 0 ≤ (0 : Int) := (by omega)
                 have q302 : 0 < ((rd_L1 t294 x51_3).length : Int) := of_decide_eq_true (by first | (with_reducible assumption) | assumption)
                 obtain ⟨ad302, e302, hx302_0⟩ := Kd.at_int (by repeat (first | (with_reducible exact HR301_0.out) | (with_reducible refine Kd.C_alloc ?_ _) | (with_reducible refine Kd.C_drewN ?_ _) | (with_reducible refine Kd.C_drew ?_) | exact HR301_0.out)) 0 p302 q302
                 cases e302
                 have qi302 : (0 < (rd_L1 t294 x51_3).length) = True := eq_true (by omega)
                 (try rw [show ((0 : Int)).toNat = 0 from rfl] at hx302_0)
                 (try rw [Addr.add_zero'] at hx302_0)
                 replace p302 := eq_true p302
                 replace q302 := eq_true q302
                 have p34 : 0 ≤ (x51_3 : Int) := of_decide_eq_true (by first | (with_reducible assumption) | assumption)
                 have q34 : (x51_3 : Int) < ((x10_3.length : Int) : Int) := of_decide_eq_true (by first | (with_reducible assumption) | assumption)
                 obtain ⟨go34, co34, eo34, gb34, gl34, cl34, HG34⟩ := Kd.R_form HO_10.out (by omega)
                 (first | cases eo34 | (injection eo34 with ea_ en_ ec_; (first | subst ea_ | (injection ea_ with ea_; subst ea_)); subst ec_; clear en_))
                 have GB34 := Aside0.mk gb34
                 have GG34 := Aside0.mk HG34
                 clear gb34 gl34 HG34
                 obtain ⟨hx34_0, hf34_0⟩ := Kd.R_celln 0 HO_10.out (x51_3 : Int) p34 q34
                 replace p34 := eq_true p34
                 replace q34 := eq_true q34
                 have HP35 := Kd.R_putg HO_10.out (x51_3 : Int) (rd (rd_L1 t294 x51_3) 0)
                 go_wp2_with (first | ((with_reducible refine gate_store (t := 3) (p := 61) rfl ?_); refine store_event (t := 3) (p := 61) (v := ?vo_w36) (w1 := (wr.setCell ⟨go34, (x51_3 : Int).toNat, none⟩ (.int .i64 (rd (rd_L1 t294 x51_3) 0)))) ?hg ?ho ?hn ?hr ?_; (case ho => rfl); (case hg => rfl); (case hn => rfl); (case hr => first | (go_simp; done) | (go_simp; rfl)); intro w36 hw; have hg : wr.grownBy w36 (some go34) := (by rw [hw]; exact HP35.2); have hp_ : Kd.R (Kd.int .i64) 3 w36 w.heap.size (fun _ => True) (.slice (some ⟨go34, 0, none⟩) x10_3.length co34) y303 := (by rw [hw, Ny303.out]; exact HP35.1); clear HP35; have n0_ := Aside0.mk (hp_); have n1_ := Aside0.mk (Kd.S_after (v := (.slice (some ⟨go34, 0, none⟩) x10_3.length co34)) (v1 := (.slice (some ⟨go34, 0, none⟩) x10_3.length co34)) (ok := (fun _ => True)) (by (with_reducible repeat (first | apply Kd.S_alloc | apply Kd.S_drewN | apply Kd.S_drew)); exact Kd.S_mono HO_49.out (fun _ hk => ⟨trivial, hk⟩)) hg (.inl rfl)); have n2_ := Aside0.mk (Kd.R_after (v := (.slice (some ⟨go34, 0, none⟩) x10_3.length co34)) (v1 := (.slice (some ⟨go34, 0, none⟩) x10_3.length co34)) (ok := (fun k_ => some k_ ≠ (.slice (some ad301) t294.length co26 : Value).ownBlock)) (by (with_reducible repeat (first | apply Kd.R_alloc | apply Kd.R_drewN | apply Kd.R_drew)); exact Kd.R_mono HL301_0.out (fun _ hk => ⟨hk.2, hk.1⟩)) hg (.inl rfl)); have n3_ := Aside0.mk ((by rw [hw]; exact below_set (HB.out) GB34.out : Below w.heap.size w w36)); clear HO_10; clear HO_49; clear HL301_0; clear HB; have HO_10 := n0_; have HO_49 := n1_; have HL301_0 := n2_; have HB := n3_; clear n0_ n1_ n2_ n3_; clear hg hw hp_))
                 go_roundg k3
                 case measure => have := HJ2.out; have := HK2.out; have := HK3.out; omega
                 case rel => exact ⟨(y303), (wrap64 (x51_3 + 1)), (by first | rfl | (simp; done) | (simp [*]; done)), H', ⟨by have := HJ2.out; have := HK2.out; have := HK3.out; omega⟩, ⟨by (with_reducible repeat (first | apply Kd.R_alloc | apply Kd.R_drewN | apply Kd.R_drew)); exact HO_10.out⟩, ⟨by (with_reducible repeat (first | apply Kd.S_alloc | apply Kd.S_drewN | apply Kd.S_drew)); exact Kd.S_mono HO_49.out (fun _ hk => hk.2)⟩, ⟨by repeat (first | (with_reducible first | exact HB.out | apply below_alloc | apply pw_below_drewN | apply below_drew1) | exact HB.out)⟩⟩
                ·rw [if_neg c33] at H
                 exact absurd H (by simp)
               ·rw [if_neg c32] at H
                exact absurd H (by simp)
              ·rw [if_neg c31] at H
               exact absurd H (by simp)
             ·rw [if_neg c30] at H
              exact absurd H (by simp)
            ·rw [if_neg c29] at H
             have c29b0 : decide (x51_3 < (t294.length : Int)) = false := decide_eq_false c29
             clear c29
             simp only [Option.some.injEq, Prod.mk.injEq] at H
             obtain ⟨rfl, rfl⟩ := H
             go_wp2
             go_ret2
             exact ⟨_, by first | rfl | (simp [errW_none, errW_some] <;> rfl) | (simp [*, errW_none, errW_some] <;> rfl), by (with_reducible repeat (first | apply Kd.R_alloc | apply Kd.R_drewN | apply Kd.R_drew)); exact HO_10.out, by repeat (first | (with_reducible first | exact HB.out | apply below_alloc | apply pw_below_drewN | apply below_drew1) | exact HB.out)⟩
         ·rw [if_neg c23] at H
          exact absurd H (by simp)
        ·rw [if_neg c22] at H
         exact absurd H (by simp)
       ·replace c21 := Bool.eq_false_iff.mpr c21
        subst c21
        have H1 : (some (([] : List Int), 8)) = some (r1, r2) := by rw [if_neg (show ¬ (false = true) by decide)] at H; exact H
        clear H
        have H := H1
        clear H1
        simp only [Option.some.injEq, Prod.mk.injEq] at H
        obtain ⟨rfl, rfl⟩ := H
        obtain ⟨Ao37, co37, eo37⟩ := Kd.S_slice HO_6.out
        subst eo37
        go_wp2_with (first | ((with_reducible refine gate_callee (f := 42) rfl ?_); refine goesL_ (some 42) rfl rfl Try.func42 (by kernel_rfl) rfl #[.slice A0 l0.length c0, .slice Ao37 x6_2.length co37] rfl (by (try simp only [List.map_toArray, List.map_cons, List.map_nil]); first | done | rfl | (simp only [List.length_drop, List.length_take]; rfl)) ?_; (with_reducible refine (maxplus_product.calls k2 _ _ l0 _ _ x6_2 t294 _ ?side1 ?side2 ?side3 ?side4 A19.out).mono ?_); (case side1 => repeat (first | exact (Kd.C_below HR0.out HB.out) | (with_reducible refine Kd.C_alloc ?_ _) | (with_reducible refine Kd.C_drewN ?_ _) | (with_reducible refine Kd.C_drew ?_))); (case side2 => exact HC0.out); (case side3 => repeat (first | exact (Kd.S_reads' HO_6.out).2.2 | (with_reducible refine Kd.C_alloc ?_ _) | (with_reducible refine Kd.C_drewN ?_ _) | (with_reducible refine Kd.C_drew ?_))); (case side4 => exact (Kd.S_reads' HO_6.out).2.1); rintro e w38 ⟨v295, rfl, ho0, hb⟩; refine ⟨_, rfl, ?_⟩; have n0_ := Aside0.mk (Kd.S_elder' (by (with_reducible repeat (first | apply Kd.S_alloc | apply Kd.S_drewN | apply Kd.S_drew)); exact HO_6.out) (by first | exact Kd.N_base ho0 | exact Kd.S_base ho0 | exact Kd.R_base ho0 | exact Kd.Q_base ho0) hb); have n1_ := Aside0.mk (Kd.S_lower (Kd.S_new' ho0 (Kd.S_lt (by (with_reducible repeat (first | apply Kd.S_alloc | apply Kd.S_drewN | apply Kd.S_drew)); exact HO_6.out))) (below_size (by repeat (first | (with_reducible first | exact HB.out | apply below_alloc | apply pw_below_drewN | apply below_drew1) | exact HB.out)))); have n2_ := Aside0.mk (below_step (by repeat (first | (with_reducible first | exact HB.out | apply below_alloc | apply pw_below_drewN | apply below_drew1) | exact HB.out)) hb); clear HO_6; clear HB; have HO_6 := n0_; have HO296 := n1_; have HB := n2_; clear n0_ n1_ n2_; (try clear hb); (try clear hb2); (try clear hk); (try clear hi); (try clear ho0); obtain ⟨Ao39, co39, eo39⟩ := Kd.S_slice HO296.out; subst eo39) | ((with_reducible refine gate_callee (f := 43) rfl ?_); refine goesL_ (some 44) rfl rfl Try.func43 (by kernel_rfl) rfl #[.slice Ao39 t294.length co39] rfl (by (try simp only [List.map_toArray, List.map_cons, List.map_nil]); first | done | rfl | (simp only [List.length_drop, List.length_take]; rfl)) ?_; (with_reducible refine (maxplus_fits.calls k2 _ _ t294 false _ ?side1 ?side2 A20.out).mono ?_); (case side1 => repeat (first | exact (Kd.S_reads' HO296.out).2.2 | (with_reducible refine Kd.C_alloc ?_ _) | (with_reducible refine Kd.C_drewN ?_ _) | (with_reducible refine Kd.C_drew ?_))); (case side2 => exact (Kd.S_reads' HO296.out).2.1); rintro e w' ⟨rfl, ⟨nd, rfl⟩⟩; refine ⟨_, rfl, ?_⟩))
        go_ret2
        exact ⟨_, by first | rfl | (simp [errW_none, errW_some] <;> rfl) | (simp [*, errW_none, errW_some] <;> rfl), by first | exact Kd.R_nil _ _ _ _ _ | exact Kd.N_nil _ _ _ _ _ | exact Kd.V_nil _ _ _ _ _ | exact Kd.Q_nil _ _ _ _ _ | exact Kd.S_nil _ _ _ _ _, by repeat (first | (with_reducible first | exact HB.out | apply below_alloc | apply pw_below_drewN | apply below_drew1) | exact HB.out)⟩

end Go.Proofs.Ytnmhdeibjglhcaa.XMaxplusRaw
