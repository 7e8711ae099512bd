-- This session's own text, written by wip/tools/xprint.py after the form of the kit's print.
import Derived.Test.YtfnpoalffpnllaaXDynamicsReferencex0
import Derived.Test.YtfnpoalffpnllaaXDynamicsReferencex1
namespace Go.Proofs.Ytfnpoalffpnllaa.XDynamicsReference
open Go.RowKit Go.Proofs.YtfnpoalffpnllaaW.PrintWords Go.Proofs.YtfnpoalffpnllaaW.PrintLast Go.Proofs.YtfnpoalffpnllaaW.PrintMore
attribute [local go_sem] max2_int min2_int max_two min_two max_three min_three max_four min_four   -- for this text's walks alone
set_option linter.unusedVariables false
set_option linter.unusedSimpArgs false

/-! ### dynamics_Speeds: function 17 -/
mutual
def dynamics_Speeds.l0 : Nat → List (S34) → Int → List (S34) → List Int → Int → Int → ByteArray → Int → Int → Int → Int → Option (List Int × Int)
  | 0, _, _, _, _, _, _, _, _, _, _, _ => none
  | k + 1, x0, x1, x9, x10, x11, x12, x123000, x123001, x123002, x123003, x123004 => if x12 < (x9.length : Int) then ((dynamics_limit.f k x0 (wrap64 (x1 + x12)) x123000 x123001 x123002 x123003 x123004).bind fun t132 => (if 0 ≤ (wrap64 (x12 - 1)) then (if (wrap64 (x12 - 1)) < (x10.length : Int) then (if (wrap64 (x12 - 1)) < (x9.length : Int) then ((dynamics_gain.f ((rd_T34 x9 (wrap64 (x12 - 1))).f0) ((rd_T34 x9 (wrap64 (x12 - 1))).f1) x123000 x123001 x123002 x123003 x123004).bind fun t135 => (if 0 ≤ x12 then (if x12 < (x10.length : Int) then (dynamics_Speeds.l0 k x0 x1 x9 (x10.set (x12 : Int).toNat (mn (wrap64 ((mn x11 t132) * (mn x11 t132))) (wrap64 ((rd x10 (wrap64 (x12 - 1))) + t135)))) t132 (wrap64 (x12 + 1)) x123000 x123001 x123002 x123003 x123004) else (none)) else (none))) else (none)) else (none)) else (none))) else (dynamics_Speeds.l1 k x9 x10 (wrap64 ((x9.length : Int) - 1)) x123000 x123001 x123002 x123003 x123004)
def dynamics_Speeds.l1 : Nat → List (S34) → List Int → Int → ByteArray → Int → Int → Int → Int → Option (List Int × Int)
  | 0, _, _, _, _, _, _, _, _ => none
  | k + 1, x9, x10, x15, x123000, x123001, x123002, x123003, x123004 => if x15 > 0 then (if 0 ≤ x15 then (if x15 < (x10.length : Int) then (if 0 ≤ (wrap64 (x15 + 1)) then (if (wrap64 (x15 + 1)) < (x10.length : Int) then (if x15 < (x9.length : Int) then ((dynamics_loss.f ((rd_T34 x9 x15).f0) ((rd_T34 x9 x15).f1) x123000 x123001 x123002 x123003 x123004).bind fun t140 => (dynamics_Speeds.l1 k x9 (x10.set (x15 : Int).toNat (mn (rd x10 x15) (wrap64 ((rd x10 (wrap64 (x15 + 1))) + t140)))) (wrap64 (x15 - 1)) x123000 x123001 x123002 x123003 x123004)) else (none)) else (none)) else (none)) else (none)) else (none)) else (dynamics_Speeds.l2 k x10 (x10.length : Int) 0)
def dynamics_Speeds.l2 : Nat → List Int → Int → Int → Option (List Int × Int)
  | 0, _, _, _ => none
  | k + 1, x10, x100, x101 => if x101 < x100 then (if 0 ≤ x101 then (if x101 < (x10.length : Int) then ((arith_Sqrt.f k (rd x10 x101)).bind fun t143 => (dynamics_Speeds.l2 k (x10.set (x101 : Int).toNat t143) x100 (wrap64 (x101 + 1)))) else (none)) else (none)) else (some (x10, 0))
end
def dynamics_Speeds.f (k : Nat) (l0 : List (S34)) (a1 : Int) (a2_0 : ByteArray) (a2_1 : Int) (a2_2 : Int) (a2_3 : Int) (a2_4 : Int) : Option (List Int × Int) := (dynamics_check.f k l0 a1 a2_0 a2_1 a2_2 a2_3 a2_4).bind fun t123 => (if t123 = 0 then (if 0 ≤ a1 then (if a1 ≤ (l0.length : Int) then ((some (l0.drop (a1 : Int).toNat : List (S34))).bind fun y124 => (if 0 ≤ (wrap64 ((y124.length : Int) + 1)) then (if (wrap64 ((y124.length : Int) + 1) : Int).toNat ≤ 35184372088832 then ((dynamics_limit.f k l0 a1 a2_0 a2_1 a2_2 a2_3 a2_4).bind fun t131 => (dynamics_Speeds.l0 k l0 a1 y124 (List.replicate (wrap64 ((y124.length : Int) + 1) : Int).toNat 0) t131 1 a2_0 a2_1 a2_2 a2_3 a2_4)) else (none)) else (none))) else (none)) else (none)) else (some (([] : List Int), t123)))
theorem dynamics_Speeds.mono_l : ∀ k, (∀ y0 y1 y2 y3 y4 y5 y6 y7 y8 y9 y10, LeO (dynamics_Speeds.l0 k y0 y1 y2 y3 y4 y5 y6 y7 y8 y9 y10) (dynamics_Speeds.l0 (k + 1) y0 y1 y2 y3 y4 y5 y6 y7 y8 y9 y10)) ∧ (∀ y0 y1 y2 y3 y4 y5 y6 y7, LeO (dynamics_Speeds.l1 k y0 y1 y2 y3 y4 y5 y6 y7) (dynamics_Speeds.l1 (k + 1) y0 y1 y2 y3 y4 y5 y6 y7)) ∧ (∀ y0 y1 y2, LeO (dynamics_Speeds.l2 k y0 y1 y2) (dynamics_Speeds.l2 (k + 1) y0 y1 y2))
  | 0 => ⟨fun _ _ _ _ _ _ _ _ _ _ _ r h => by simp [dynamics_Speeds.l0] at h, fun _ _ _ _ _ _ _ _ r h => by simp [dynamics_Speeds.l1] at h, fun _ _ _ r h => by simp [dynamics_Speeds.l2] at h⟩
  | k + 1 => by
    obtain ⟨ih0, ih1, ih2⟩ := dynamics_Speeds.mono_l k
    refine ⟨?_, ?_, ?_⟩
    · intro y0 y1 y2 y3 y4 y5 y6 y7 y8 y9 y10
      unfold dynamics_Speeds.l0
      repeat' first
      | (with_reducible exact ih0 _ _ _ _ _ _ _ _ _ _ _)
      | (with_reducible exact ih1 _ _ _ _ _ _ _ _)
      | (with_reducible exact ih2 _ _ _)
      | (with_reducible exact arith_Sqrt.mono _ _)
      | (with_reducible exact dynamics_check.mono _ _ _ _ _ _ _ _)
      | (with_reducible exact dynamics_limit.mono _ _ _ _ _ _ _ _)
      | (with_reducible exact LeO.refl _)
      | (with_reducible exact LeO.none _)
      | (with_reducible refine LeO.ite ?_ ?_)
      | (with_reducible refine LeO.bind ?_ (fun _ => ?_))
      | exact ih0 _ _ _ _ _ _ _ _ _ _ _
      | exact ih1 _ _ _ _ _ _ _ _
      | exact ih2 _ _ _
      | exact arith_Sqrt.mono _ _
      | exact dynamics_check.mono _ _ _ _ _ _ _ _
      | exact dynamics_limit.mono _ _ _ _ _ _ _ _
      | exact LeO.none _
      | refine LeO.ite ?_ ?_
      | refine LeO.bind ?_ (fun _ => ?_)
    · intro y0 y1 y2 y3 y4 y5 y6 y7
      unfold dynamics_Speeds.l1
      repeat' first
      | (with_reducible exact ih0 _ _ _ _ _ _ _ _ _ _ _)
      | (with_reducible exact ih1 _ _ _ _ _ _ _ _)
      | (with_reducible exact ih2 _ _ _)
      | (with_reducible exact arith_Sqrt.mono _ _)
      | (with_reducible exact dynamics_check.mono _ _ _ _ _ _ _ _)
      | (with_reducible exact dynamics_limit.mono _ _ _ _ _ _ _ _)
      | (with_reducible exact LeO.refl _)
      | (with_reducible exact LeO.none _)
      | (with_reducible refine LeO.ite ?_ ?_)
      | (with_reducible refine LeO.bind ?_ (fun _ => ?_))
      | exact ih0 _ _ _ _ _ _ _ _ _ _ _
      | exact ih1 _ _ _ _ _ _ _ _
      | exact ih2 _ _ _
      | exact arith_Sqrt.mono _ _
      | exact dynamics_check.mono _ _ _ _ _ _ _ _
      | exact dynamics_limit.mono _ _ _ _ _ _ _ _
      | exact LeO.none _
      | refine LeO.ite ?_ ?_
      | refine LeO.bind ?_ (fun _ => ?_)
    · intro y0 y1 y2
      unfold dynamics_Speeds.l2
      repeat' first
      | (with_reducible exact ih0 _ _ _ _ _ _ _ _ _ _ _)
      | (with_reducible exact ih1 _ _ _ _ _ _ _ _)
      | (with_reducible exact ih2 _ _ _)
      | (with_reducible exact arith_Sqrt.mono _ _)
      | (with_reducible exact dynamics_check.mono _ _ _ _ _ _ _ _)
      | (with_reducible exact dynamics_limit.mono _ _ _ _ _ _ _ _)
      | (with_reducible exact LeO.refl _)
      | (with_reducible exact LeO.none _)
      | (with_reducible refine LeO.ite ?_ ?_)
      | (with_reducible refine LeO.bind ?_ (fun _ => ?_))
      | exact ih0 _ _ _ _ _ _ _ _ _ _ _
      | exact ih1 _ _ _ _ _ _ _ _
      | exact ih2 _ _ _
      | exact arith_Sqrt.mono _ _
      | exact dynamics_check.mono _ _ _ _ _ _ _ _
      | exact dynamics_limit.mono _ _ _ _ _ _ _ _
      | exact LeO.none _
      | refine LeO.ite ?_ ?_
      | refine LeO.bind ?_ (fun _ => ?_)
theorem dynamics_Speeds.mono : ∀ a0 a1 a2 a3 a4 a5 a6 k, LeO (dynamics_Speeds.f k a0 a1 a2 a3 a4 a5 a6) (dynamics_Speeds.f (k + 1) a0 a1 a2 a3 a4 a5 a6) := by
  intro a0 a1 a2 a3 a4 a5 a6 k
  obtain ⟨ih0, ih1, ih2⟩ := dynamics_Speeds.mono_l k
  unfold dynamics_Speeds.f
  repeat' first
      | (with_reducible exact ih0 _ _ _ _ _ _ _ _ _ _ _)
      | (with_reducible exact ih1 _ _ _ _ _ _ _ _)
      | (with_reducible exact ih2 _ _ _)
      | (with_reducible exact arith_Sqrt.mono _ _)
      | (with_reducible exact dynamics_check.mono _ _ _ _ _ _ _ _)
      | (with_reducible exact dynamics_limit.mono _ _ _ _ _ _ _ _)
      | (with_reducible exact LeO.refl _)
      | (with_reducible exact LeO.none _)
      | (with_reducible refine LeO.ite ?_ ?_)
      | (with_reducible refine LeO.bind ?_ (fun _ => ?_))
      | exact ih0 _ _ _ _ _ _ _ _ _ _ _
      | exact ih1 _ _ _ _ _ _ _ _
      | exact ih2 _ _ _
      | exact arith_Sqrt.mono _ _
      | exact dynamics_check.mono _ _ _ _ _ _ _ _
      | exact dynamics_limit.mono _ _ _ _ _ _ _ _
      | exact LeO.none _
      | refine LeO.ite ?_ ?_
      | refine LeO.bind ?_ (fun _ => ?_)
def dynamics_Speeds.T12 : Bool × List (List Nat × List Nat) := (true, [([], []), ([], []), ([], []), ([], []), ([2, 3], [2, 3]), ([], []), ([], []), ([6], [6]), ([5, 7], [5, 7]), ([8], [8]), ([], []), ([], []), ([11], [11]), ([10, 12], [10, 12]), ([13], [13]), ([], []), ([14, 15], [14, 15]), ([9, 16], [9, 16]), ([4, 17], [4, 17]), ([0, 1, 0, 1, 2, 3, 4, 5, 6, 7, 8, 9, 10, 11, 12, 13, 14, 15, 16, 17, 18], [0, 1]), ([19, 18, 16, 0, 1, 2, 3, 4, 5, 6, 7, 8, 9, 10, 11, 12, 13, 14, 15, 16, 17, 18], [18, 19])])
def dynamics_Speeds.B12 : List Nat := [0, 0, 0, 0, 12, 0, 0, 64, 224, 480, 0, 0, 2048, 7168, 15360, 0, 64512, 131040, 262140, 524287, 1048575]
theorem dynamics_Speeds.tab12 : rtab .any (opsOf Try.f17 12) = dynamics_Speeds.T12 := by kernel_rfl
theorem dynamics_Speeds.bits12 : waitsOk dynamics_Speeds.T12.2 dynamics_Speeds.B12 = true := by kernel_rfl
def dynamics_Speeds.T17 : Bool × List (List Nat × List Nat) := (true, [([], []), ([], []), ([], []), ([], []), ([2, 3], [2, 3]), ([4], [4]), ([], []), ([], []), ([7], [7]), ([6, 8], [6, 8]), ([9], [9]), ([], []), ([], []), ([11, 12], [11, 12]), ([13], [13]), ([], []), ([14, 15], [14, 15]), ([10, 16], [10, 16]), ([5, 17], [5, 17]), ([0, 1, 0, 1, 2, 3, 4, 5, 6, 7, 8, 9, 10, 11, 12, 13, 14, 15, 16, 17, 18], [0, 1]), ([19, 18, 16, 0, 1, 2, 3, 4, 5, 6, 7, 8, 9, 10, 11, 12, 13, 14, 15, 16, 17, 18], [18, 19])])
def dynamics_Speeds.B17 : List Nat := [0, 0, 0, 0, 12, 28, 0, 0, 128, 448, 960, 0, 0, 6144, 14336, 0, 63488, 131008, 262140, 524287, 1048575]
theorem dynamics_Speeds.tab17 : rtab .any (opsOf Try.f17 17) = dynamics_Speeds.T17 := by kernel_rfl
theorem dynamics_Speeds.bits17 : waitsOk dynamics_Speeds.T17.2 dynamics_Speeds.B17 = true := by kernel_rfl
set_option maxHeartbeats 8000000 in
set_option maxRecDepth 100000 in
theorem dynamics_Speeds.calls (k : Nat) (A0 : Option Addr) (c0 : Nat) (l0 : List (S34)) (a1 : Int) (a2_0 : ByteArray) (a2_1 : Int) (a2_2 : Int) (a2_3 : Int) (a2_4 : Int) (r1 : List Int) (r2 : Int) (w : World) (hr0 : Kd.C k34 w A0 l0.length l0) (hc0 : l0.length ≤ c0) (h : dynamics_Speeds.f k l0 a1 a2_0 a2_1 a2_2 a2_3 a2_4 = some (r1, r2)) :
    Calls Try.prog 17 #[.slice A0 l0.length c0, .int .i64 a1, .agg #[.string a2_0, .int .i64 a2_1, .int .i64 a2_2, .int .i64 a2_3, .int .i64 a2_4]] w fun e w' => ∃ v0_ : Value, e = .returned (.tuple #[v0_, .int .i64 r2]) ∧ Kd.R (Kd.int .i64) 3 w' w.heap.size (fun _ => True) v0_ r1 ∧ Below w.heap.size w w' := by
  have hu26 := Try.underlying26
  have hu34 := Try.underlying34
  have HR0 := Aside0.mk hr0
  have HC0 := Aside0.mk hc0
  clear hr0 hc0
  have HB := Aside0.mk (Below.refl w.heap.size w)
  have H : ((dynamics_check.f k l0 a1 a2_0 a2_1 a2_2 a2_3 a2_4).bind fun t123 => (if t123 = 0 then (if 0 ≤ a1 then (if a1 ≤ (l0.length : Int) then ((some (l0.drop (a1 : Int).toNat : List (S34))).bind fun y124 => (if 0 ≤ (wrap64 ((y124.length : Int) + 1)) then (if (wrap64 ((y124.length : Int) + 1) : Int).toNat ≤ 35184372088832 then ((dynamics_limit.f k l0 a1 a2_0 a2_1 a2_2 a2_3 a2_4).bind fun t131 => (dynamics_Speeds.l0 k l0 a1 y124 (List.replicate (wrap64 ((y124.length : Int) + 1) : Int).toNat 0) t131 1 a2_0 a2_1 a2_2 a2_3 a2_4)) else (none)) else (none))) else (none)) else (none)) else (some (([] : List Int), t123)))) = some (r1, r2) := h
  clear h
  replace H := Option.bind_eq_some_iff.mp H
  obtain ⟨t123, A40, H⟩ := H
  replace H : (if t123 = 0 then (if 0 ≤ a1 then (if a1 ≤ (l0.length : Int) then ((some (l0.drop (a1 : Int).toNat : List (S34))).bind fun y124 => (if 0 ≤ (wrap64 ((y124.length : Int) + 1)) then (if (wrap64 ((y124.length : Int) + 1) : Int).toNat ≤ 35184372088832 then ((dynamics_limit.f k l0 a1 a2_0 a2_1 a2_2 a2_3 a2_4).bind fun t131 => (dynamics_Speeds.l0 k l0 a1 y124 (List.replicate (wrap64 ((y124.length : Int) + 1) : Int).toNat 0) t131 1 a2_0 a2_1 a2_2 a2_3 a2_4)) else (none)) else (none))) else (none)) else (none)) else (some (([] : List Int), t123))) = some (r1, r2) := H
  have A4 := Aside0.mk A40
  clear A40
  by_cases c5 : t123 = 0
  · rw [if_pos c5] at H
    have c5b0 : (t123 == 0) = true := beq_iff_eq.mpr c5
    have c5b1 : (t123 != 0) = false := bne_eq_false_iff_eq.mpr c5
    clear c5
    by_cases c6 : 0 ≤ a1
    · rw [if_pos c6] at H
      have c6b0 := eq_true c6
      have c6b1 : decide (0 ≤ a1) = true := decide_eq_true c6
      clear c6
      by_cases c7 : a1 ≤ (l0.length : Int)
      · rw [if_pos c7] at H
        have c7b0 := eq_true c7
        have c7b1 : decide (a1 ≤ (l0.length : Int)) = true := decide_eq_true c7
        clear c7
        obtain ⟨y124, hy124⟩ : ∃ y_ : List (S34), y_ = (l0.drop (a1 : Int).toNat) := ⟨_, rfl⟩
        replace H : (if 0 ≤ (wrap64 ((y124.length : Int) + 1)) then (if (wrap64 ((y124.length : Int) + 1) : Int).toNat ≤ 35184372088832 then ((dynamics_limit.f k l0 a1 a2_0 a2_1 a2_2 a2_3 a2_4).bind fun t131 => (dynamics_Speeds.l0 k l0 a1 y124 (List.replicate (wrap64 ((y124.length : Int) + 1) : Int).toNat 0) t131 1 a2_0 a2_1 a2_2 a2_3 a2_4)) else (none)) else (none)) = some (r1, r2) := by first | (rw [hy124]; with_reducible exact H) | (have H2_ := (Option.bind_some _ _).symm.trans H; rw [hy124]; with_reducible exact H2_) | (have H2_ := (Option.bind_some _ _).symm.trans H; with_reducible exact H2_) | with_reducible exact H | (rw [hy124]; exact H) | exact H
        have Ny124 := Aside0.mk hy124
        clear hy124
        obtain ⟨ji8, hji8⟩ : ∃ j_ : Int, (wrap64 ((y124.length : Int) + 1)) = j_ := ⟨_, rfl⟩
        replace H : (if 0 ≤ (ji8) then (if (ji8 : Int).toNat ≤ 35184372088832 then ((dynamics_limit.f k l0 a1 a2_0 a2_1 a2_2 a2_3 a2_4).bind fun t131 => (dynamics_Speeds.l0 k l0 a1 y124 (List.replicate (ji8 : Int).toNat 0) t131 1 a2_0 a2_1 a2_2 a2_3 a2_4)) else (none)) else (none)) = some (r1, r2) := by first | (rw [hji8] at H; exact H) | (simp only [hji8] at H ⊢; exact H)
        (try rw [hji8] at A4)
        have hji8w : (IntKind.i64.wrap ((y124.length : Int) + 1)) = ji8 := (i64_w _).trans hji8
        by_cases c9 : 0 ≤ (ji8)
        · rw [if_pos c9] at H
          have c9b0 := eq_true c9
          have c9b1 : decide (0 ≤ (ji8)) = true := decide_eq_true c9
          clear c9
          by_cases c10 : (ji8 : Int).toNat ≤ 35184372088832
          · rw [if_pos c10] at H
            have c10b0 := eq_true c10
            have c10b1 : decide ((ji8 : Int).toNat ≤ 35184372088832) = true := decide_eq_true c10
            clear c10
            obtain ⟨y128, hy128⟩ : ∃ y_ : List Int, y_ = (List.replicate (ji8 : Int).toNat 0) := ⟨_, rfl⟩
            replace H : ((dynamics_limit.f k l0 a1 a2_0 a2_1 a2_2 a2_3 a2_4).bind fun t131 => (dynamics_Speeds.l0 k l0 a1 y124 y128 t131 1 a2_0 a2_1 a2_2 a2_3 a2_4)) = some (r1, r2) := by first | (rw [hy128]; with_reducible exact H) | (have H2_ := (Option.bind_some _ _).symm.trans H; rw [hy128]; with_reducible exact H2_) | (have H2_ := (Option.bind_some _ _).symm.trans H; with_reducible exact H2_) | with_reducible exact H | (rw [hy128]; exact H) | exact H
            have Ny128 := Aside0.mk hy128
            clear hy128
            replace H := Option.bind_eq_some_iff.mp H
            obtain ⟨t131, A110, H⟩ := H
            replace H : (dynamics_Speeds.l0 k l0 a1 y124 y128 t131 1 a2_0 a2_1 a2_2 a2_3 a2_4) = some (r1, r2) := H
            have A11 := Aside0.mk A110
            clear A110
            have H' := Aside0.mk H
            clear H
            go_enter Try.func17, Try.ntmps17
            go_wp2_with (first | ((with_reducible refine gate_dst (N := 5) rfl ?_); refine box_event ?hg (N := 5) ?hd (cs := #[.string a2_0, .int .i64 a2_1, .int .i64 a2_2, .int .i64 a2_3, .int .i64 a2_4]) (t := 26) ?hr ?_; (case hd => rfl); (case hg => rfl); (case hr => first | (go_simp; done) | (go_simp; rfl)); intro gb122 hg w12 hbox hb; have n0_ := Aside0.mk (below_step (by repeat (first | (with_reducible first | exact HB.out | apply below_alloc | apply pw_below_drewN | apply below_drew1) | exact HB.out)) hb); have n1_ := Aside0.mk (hbox); have n2_ := Aside0.mk ((by rw [hg]; exact (below_size (by repeat (first | (with_reducible first | exact HB.out | apply below_alloc | apply pw_below_drewN | apply below_drew1) | exact HB.out))) : w.heap.size ≤ gb122)); have n3_ := Aside0.mk ((by rw [hg]; exact (below_size (by repeat (first | (with_reducible first | exact HB.out | apply below_alloc | apply pw_below_drewN | apply below_drew1) | exact HB.out))) : w.heap.size ≤ gb122)); clear HB; have HB := n0_; have BK122 := n1_; have GW122 := n2_; have GE122 := n3_; clear n0_ n1_ n2_ n3_; clear hb hbox hg; have hcz13_0 : w12.cell? ⟨gb122, 0, none⟩ = some (.string a2_0) := (blk_cell BK122.out 0).trans rfl; have hcz13_1 : w12.cell? ⟨gb122, 1, none⟩ = some (.int .i64 a2_1) := (blk_cell BK122.out 1).trans rfl; have hcz13_2 : w12.cell? ⟨gb122, 2, none⟩ = some (.int .i64 a2_2) := (blk_cell BK122.out 2).trans rfl; have hcz13_3 : w12.cell? ⟨gb122, 3, none⟩ = some (.int .i64 a2_3) := (blk_cell BK122.out 3).trans rfl; have hcz13_4 : w12.cell? ⟨gb122, 4, none⟩ = some (.int .i64 a2_4) := (blk_cell BK122.out 4).trans rfl; have hfz13_0 := blk_frozen BK122.out 0; have hfz13_1 := blk_frozen BK122.out 1; have hfz13_2 := blk_frozen BK122.out 2; have hfz13_3 := blk_frozen BK122.out 3; have hfz13_4 := blk_frozen BK122.out 4) | ((with_reducible refine gate_callee (f := 26) rfl ?_); refine goesL_ (some 21) rfl rfl Try.func26 (by kernel_rfl) rfl #[.slice A0 l0.length c0, .int .i64 a1, .agg #[.string a2_0, .int .i64 a2_1, .int .i64 a2_2, .int .i64 a2_3, .int .i64 a2_4]] rfl (by (try simp only [List.map_toArray, List.map_cons, List.map_nil]); first | done | rfl | (simp only [List.length_drop, List.length_take]; rfl)) ?_; (with_reducible refine (dynamics_check.calls k _ _ l0 a1 a2_0 a2_1 a2_2 a2_3 a2_4 t123 _ ?side1 ?side2 A4.out).mono ?_); (case side1 => repeat (first | exact (Kd.C_below HR0.out HB.out) | (with_reducible refine Kd.C_alloc ?_ _) | (with_reducible refine Kd.C_drewN ?_ _) | (with_reducible refine Kd.C_drew ?_))); (case side2 => exact HC0.out); rintro e w14 ⟨rfl, hb⟩; refine ⟨_, rfl, ?_⟩; have n0_ := Aside0.mk (blk_below (g := gb122) (o := .cells #[.string a2_0, .int .i64 a2_1, .int .i64 a2_2, .int .i64 a2_3, .int .i64 a2_4] 26 (0, 0)) (by (with_reducible repeat (first | refine blk_drewN ?_ _ | refine blk_drew ?_ | refine blk_alloc ?_ _)); exact BK122.out) hb); have n1_ := Aside0.mk (below_step (by repeat (first | (with_reducible first | exact HB.out | apply below_alloc | apply pw_below_drewN | apply below_drew1 | refine below_set ?_ GE122.out) | exact HB.out)) hb); clear BK122; clear HB; have BK122 := n0_; have HB := n1_; clear n0_ n1_; (try clear hb); (try clear hb2); (try clear hk); (try clear hi); have q15 : (a1 : Int) ≤ ((l0.length : Int) : Int) := of_decide_eq_true (by first | (with_reducible assumption) | assumption); obtain ⟨i015, hi015, _, hsz15, _⟩ := info_parts info34; have hroom15 : l0.length ≤ c0 := HC0.out; have hC15 : Kd.C k34 _ A0 l0.length l0 := HR0.out; have q015 : (0 : Int) ≤ (a1 : Int) := of_decide_eq_true (by first | (with_reducible assumption) | assumption); have hcut15 := cut_from (P := Try.prog) 23 34 .i64 Try.underlying23 hi015 2 hsz15 A0 l0.length c0 a1 q015 q15; have hr15 := Kd.C_drop (m := (a1 : Int).toNat) (c := c0) hC15 (by omega) hroom15; obtain ⟨A15, hA15⟩ : ∃ A1, A1 = (if c0 = (a1 : Int).toNat then A0 else (A0 : Option Addr).map (·.add ((a1 : Int).toNat * 2))) := ⟨_, rfl⟩; obtain ⟨c15, hc15⟩ : ∃ c1, c1 = c0 - (a1 : Int).toNat := ⟨_, rfl⟩; have hy15 : y124.length = l0.length - (a1 : Int).toNat := (by rw [Ny124.out, List.length_drop] <;> omega); rw [show (l0).drop (a1 : Int).toNat = y124 from Ny124.out.symm] at hr15; replace hr15 : Kd.C k34 _ A15 y124.length y124 := (by rw [hA15]; exact hr15); rw [← hy15, ← hA15, ← hc15] at hcut15; have HR127 := Aside0.mk hr15; have HC127 := Aside0.mk (show y124.length ≤ c15 from by rw [hy15, hc15]; exact Nat.sub_le_sub_right hroom15 _); clear hr15 hC15 hroom15 hi015 hsz15 hc15; have KY15 := Aside0.mk hy15; have KA15 := Aside0.mk hA15; clear hy15 hA15; replace q15 := eq_true q15) | ((with_reducible refine gate_dst (N := 31) rfl ?_); refine Kd.R_make (Kd.int .i64) _ 3 rfl (N := 31) rfl 22 _ _ rfl ji8 rfl rfl Try.underlying22 (.int .i64 0) 8 info3 rfl (by decide) (by omega) 0 (ok := fun _ => True) (okp := fun _ => True) rfl (fun _ hk => hk) trivial (of_decide_eq_true (by first | (with_reducible assumption) | assumption)) (Nat.le_trans (Nat.mul_le_mul_right _ (of_decide_eq_true (by first | (with_reducible assumption) | assumption) : ji8.toNat ≤ 35184372088832)) (by omega)) (Below.refl _ _) (Nat.le_refl _) ?_; intro v129 w16 ho17 hb hg_ hnew_; clear hg_ hnew_; (first | rw [← Ny128.out] at ho17 | (simp only [Int.reduceToNat] at ho17; rw [← Ny128.out] at ho17)); have n0_ := Aside0.mk (Kd.R_lower ho17 (below_size (by repeat (first | (with_reducible first | exact HB.out | apply below_alloc | apply pw_below_drewN | apply below_drew1 | refine below_set ?_ GE122.out) | exact HB.out)))); have n1_ := Aside0.mk (blk_below (g := gb122) (o := .cells #[.string a2_0, .int .i64 a2_1, .int .i64 a2_2, .int .i64 a2_3, .int .i64 a2_4] 26 (0, 0)) (by (with_reducible repeat (first | refine blk_drewN ?_ _ | refine blk_drew ?_ | refine blk_alloc ?_ _)); exact BK122.out) hb); have n2_ := Aside0.mk (below_step (by repeat (first | (with_reducible first | exact HB.out | apply below_alloc | apply pw_below_drewN | apply below_drew1 | refine below_set ?_ GE122.out) | exact HB.out)) hb); clear BK122; clear HB; have HO130 := n0_; have BK122 := n1_; have HB := n2_; clear n0_ n1_ n2_; clear hb ho17; have hcz18_0 : w16.cell? ⟨gb122, 0, none⟩ = some (.string a2_0) := (blk_cell BK122.out 0).trans rfl; have hcz18_1 : w16.cell? ⟨gb122, 1, none⟩ = some (.int .i64 a2_1) := (blk_cell BK122.out 1).trans rfl; have hcz18_2 : w16.cell? ⟨gb122, 2, none⟩ = some (.int .i64 a2_2) := (blk_cell BK122.out 2).trans rfl; have hcz18_3 : w16.cell? ⟨gb122, 3, none⟩ = some (.int .i64 a2_3) := (blk_cell BK122.out 3).trans rfl; have hcz18_4 : w16.cell? ⟨gb122, 4, none⟩ = some (.int .i64 a2_4) := (blk_cell BK122.out 4).trans rfl; have hfz18_0 := blk_frozen BK122.out 0; have hfz18_1 := blk_frozen BK122.out 1; have hfz18_2 := blk_frozen BK122.out 2; have hfz18_3 := blk_frozen BK122.out 3; have hfz18_4 := blk_frozen BK122.out 4) | ((with_reducible refine gate_callee (f := 27) rfl ?_); refine goesL_ (some 35) rfl rfl Try.func27 (by kernel_rfl) rfl #[.slice A0 l0.length c0, .int .i64 a1, .agg #[.string a2_0, .int .i64 a2_1, .int .i64 a2_2, .int .i64 a2_3, .int .i64 a2_4]] rfl (by (try simp only [List.map_toArray, List.map_cons, List.map_nil]); first | done | rfl | (simp only [List.length_drop, List.length_take]; rfl)) ?_; (with_reducible refine (dynamics_limit.calls k _ _ l0 a1 a2_0 a2_1 a2_2 a2_3 a2_4 t131 _ ?side1 ?side2 A11.out).mono ?_); (case side1 => repeat (first | exact (Kd.C_below HR0.out HB.out) | (with_reducible refine Kd.C_alloc ?_ _) | (with_reducible refine Kd.C_drewN ?_ _) | (with_reducible refine Kd.C_drew ?_))); (case side2 => exact HC0.out); rintro e w19 ⟨rfl, hb⟩; refine ⟨_, rfl, ?_⟩; have n0_ := Aside0.mk (Kd.R_below (by (with_reducible repeat (first | apply Kd.R_alloc | apply Kd.R_drewN | apply Kd.R_drew)); exact HO130.out) hb); have n1_ := Aside0.mk (blk_below (g := gb122) (o := .cells #[.string a2_0, .int .i64 a2_1, .int .i64 a2_2, .int .i64 a2_3, .int .i64 a2_4] 26 (0, 0)) (by (with_reducible repeat (first | refine blk_drewN ?_ _ | refine blk_drew ?_ | refine blk_alloc ?_ _)); exact BK122.out) hb); have n2_ := Aside0.mk (below_step (by repeat (first | (with_reducible first | exact HB.out | apply below_alloc | apply pw_below_drewN | apply below_drew1 | refine below_set ?_ GE122.out) | exact HB.out)) hb); clear HO130; clear BK122; clear HB; have HO130 := n0_; have BK122 := n1_; have HB := n2_; clear n0_ n1_ n2_; (try clear hb); (try clear hb2); (try clear hk); (try clear hi)))
            go_loopg [11, 12] k (fun kq v11 v12 w' => ∃ (x10_1 : List Int) (x11_1 : Int) (x12_1 : Int), v11 = .int .i64 x11_1 ∧ v12 = .int .i64 x12_1 ∧ Aside0 (dynamics_Speeds.l0 kq l0 a1 y124 x10_1 x11_1 x12_1 a2_0 a2_1 a2_2 a2_3 a2_4 = some (r1, r2)) ∧ Aside0 (kq ≤ k) ∧ Aside0 (Kd.R (Kd.int .i64) 3 w' w.heap.size (fun _ => True) v129 x10_1) ∧ Aside0 (w'.heap[gb122]? = some (.cells #[.string a2_0, .int .i64 a2_1, .int .i64 a2_2, .int .i64 a2_3, .int .i64 a2_4] 26 (0, 0))) ∧ Aside0 (Below w.heap.size w w'))
            case atStart => exact ⟨(y128), (t131), (1), (by first | rfl | (simp; done) | (simp [*]; done)), (by first | rfl | (simp; done) | (simp [*]; done)), H', ⟨Nat.le_refl _⟩, ⟨by (with_reducible repeat (first | apply Kd.R_alloc | apply Kd.R_drewN | apply Kd.R_drew)); exact HO130.out⟩, ⟨by (with_reducible repeat (first | refine blk_drewN ?_ _ | refine blk_drew ?_ | refine blk_alloc ?_ _)); exact BK122.out⟩, ⟨by repeat (first | (with_reducible first | exact HB.out | apply below_alloc | apply pw_below_drewN | apply below_drew1 | refine below_set ?_ GE122.out) | exact HB.out)⟩⟩
            case round =>
              clear H'
              try clear c1
              try clear q1
              try clear c2
              try clear p2
              try clear c5
              try clear c5b0
              try clear c5b1
              try clear c6
              try clear c6b0
              try clear c6b1
              try clear p6
              try clear c7
              try clear c7b0
              try clear c7b1
              try clear c9
              try clear c9b0
              try clear c9b1
              try clear c10
              try clear c10b0
              try clear c10b1
              try clear c15
              try clear q15
              try clear c17
              try clear hcz13_0
              try clear hcz13_1
              try clear hcz13_2
              try clear hcz13_3
              try clear hcz13_4
              try clear hcz18_0
              try clear hcz18_1
              try clear hcz18_2
              try clear hcz18_3
              try clear hcz18_4
              try clear hfz13_0
              try clear hfz13_1
              try clear hfz13_2
              try clear hfz13_3
              try clear hfz13_4
              try clear hfz18_0
              try clear hfz18_1
              try clear hfz18_2
              try clear hfz18_3
              try clear hfz18_4
              try clear q015
              try clear q15
              obtain ⟨x10_1, x11_1, x12_1, rfl, rfl, HA, HK1, HO_10, BK122, HB⟩ := hrel
              cases gk with
              | zero => exact absurd HA.out (by simp [dynamics_Speeds.l0])
              | succ k1 =>
                have H := HA.out
                clear HA
                simp only [dynamics_Speeds.l0] at H
                by_cases c20 : x12_1 < (y124.length : Int)
                · rw [if_pos c20] at H
                  have c20b0 : decide (x12_1 < (y124.length : Int)) = true := decide_eq_true c20
                  clear c20
                  replace H := Option.bind_eq_some_iff.mp H
                  obtain ⟨t132, A210, H⟩ := H
                  replace H : (if 0 ≤ (wrap64 (x12_1 - 1)) then (if (wrap64 (x12_1 - 1)) < (x10_1.length : Int) then (if (wrap64 (x12_1 - 1)) < (y124.length : Int) then ((dynamics_gain.f ((rd_T34 y124 (wrap64 (x12_1 - 1))).f0) ((rd_T34 y124 (wrap64 (x12_1 - 1))).f1) a2_0 a2_1 a2_2 a2_3 a2_4).bind fun t135 => (if 0 ≤ x12_1 then (if x12_1 < (x10_1.length : Int) then (dynamics_Speeds.l0 k1 l0 a1 y124 (x10_1.set (x12_1 : Int).toNat (mn (wrap64 ((mn x11_1 t132) * (mn x11_1 t132))) (wrap64 ((rd x10_1 (wrap64 (x12_1 - 1))) + t135)))) t132 (wrap64 (x12_1 + 1)) a2_0 a2_1 a2_2 a2_3 a2_4) else (none)) else (none))) else (none)) else (none)) else (none)) = some (r1, r2) := H
                  have A21 := Aside0.mk A210
                  clear A210
                  obtain ⟨ji22, hji22⟩ : ∃ j_ : Int, (mn x11_1 t132) = j_ := ⟨_, rfl⟩
                  replace H : (if 0 ≤ (wrap64 (x12_1 - 1)) then (if (wrap64 (x12_1 - 1)) < (x10_1.length : Int) then (if (wrap64 (x12_1 - 1)) < (y124.length : Int) then ((dynamics_gain.f ((rd_T34 y124 (wrap64 (x12_1 - 1))).f0) ((rd_T34 y124 (wrap64 (x12_1 - 1))).f1) a2_0 a2_1 a2_2 a2_3 a2_4).bind fun t135 => (if 0 ≤ x12_1 then (if x12_1 < (x10_1.length : Int) then (dynamics_Speeds.l0 k1 l0 a1 y124 (x10_1.set (x12_1 : Int).toNat (mn (wrap64 ((ji22) * (ji22))) (wrap64 ((rd x10_1 (wrap64 (x12_1 - 1))) + t135)))) t132 (wrap64 (x12_1 + 1)) a2_0 a2_1 a2_2 a2_3 a2_4) else (none)) else (none))) else (none)) else (none)) else (none)) = some (r1, r2) := by first | (rw [hji22] at H; exact H) | (simp only [hji22] at H ⊢; exact H)
                  (try rw [hji22] at A21)
                  have hji22_ : (if t132 < x11_1 then t132 else x11_1) = ji22 := hji22
                  obtain ⟨ji23, hji23⟩ : ∃ j_ : Int, (wrap64 (x12_1 - 1)) = j_ := ⟨_, rfl⟩
                  replace H : (if 0 ≤ (ji23) then (if (ji23) < (x10_1.length : Int) then (if (ji23) < (y124.length : Int) then ((dynamics_gain.f ((rd_T34 y124 (ji23)).f0) ((rd_T34 y124 (ji23)).f1) a2_0 a2_1 a2_2 a2_3 a2_4).bind fun t135 => (if 0 ≤ x12_1 then (if x12_1 < (x10_1.length : Int) then (dynamics_Speeds.l0 k1 l0 a1 y124 (x10_1.set (x12_1 : Int).toNat (mn (wrap64 ((ji22) * (ji22))) (wrap64 ((rd x10_1 (ji23)) + t135)))) t132 (wrap64 (x12_1 + 1)) a2_0 a2_1 a2_2 a2_3 a2_4) else (none)) else (none))) else (none)) else (none)) else (none)) = some (r1, r2) := by first | (rw [hji23] at H; exact H) | (simp only [hji23] at H ⊢; exact H)
                  (try rw [hji23] at A21)
                  have hji23w : (IntKind.i64.wrap (x12_1 - 1)) = ji23 := (i64_w _).trans hji23
                  by_cases c24 : 0 ≤ (ji23)
                  · rw [if_pos c24] at H
                    have c24b0 : decide (0 ≤ (ji23)) = true := decide_eq_true c24
                    clear c24
                    by_cases c25 : (ji23) < (x10_1.length : Int)
                    · rw [if_pos c25] at H
                      have c25b0 : decide ((ji23) < (x10_1.length : Int)) = true := decide_eq_true c25
                      clear c25
                      by_cases c26 : (ji23) < (y124.length : Int)
                      · rw [if_pos c26] at H
                        have c26b0 : decide ((ji23) < (y124.length : Int)) = true := decide_eq_true c26
                        clear c26
                        replace H := Option.bind_eq_some_iff.mp H
                        obtain ⟨t135, A270, H⟩ := H
                        replace H : (if 0 ≤ x12_1 then (if x12_1 < (x10_1.length : Int) then (dynamics_Speeds.l0 k1 l0 a1 y124 (x10_1.set (x12_1 : Int).toNat (mn (wrap64 ((ji22) * (ji22))) (wrap64 ((rd x10_1 (ji23)) + t135)))) t132 (wrap64 (x12_1 + 1)) a2_0 a2_1 a2_2 a2_3 a2_4) else (none)) else (none)) = some (r1, r2) := H
                        have A27 := Aside0.mk A270
                        clear A270
                        obtain ⟨ji28, hji28⟩ : ∃ j_ : Int, (mn (wrap64 ((ji22) * (ji22))) (wrap64 ((rd x10_1 (ji23)) + t135))) = j_ := ⟨_, rfl⟩
                        replace H : (if 0 ≤ x12_1 then (if x12_1 < (x10_1.length : Int) then (dynamics_Speeds.l0 k1 l0 a1 y124 (x10_1.set (x12_1 : Int).toNat (ji28)) t132 (wrap64 (x12_1 + 1)) a2_0 a2_1 a2_2 a2_3 a2_4) else (none)) else (none)) = some (r1, r2) := by first | (rw [hji28] at H; exact H) | (simp only [hji28] at H ⊢; exact H)
                        (try rw [hji28] at A21)
                        (try rw [hji28] at A27)
                        have hji28_ : (if (wrap64 ((rd x10_1 (ji23)) + t135)) < (wrap64 ((ji22) * (ji22))) then (wrap64 ((rd x10_1 (ji23)) + t135)) else (wrap64 ((ji22) * (ji22)))) = ji28 := hji28
                        by_cases c29 : 0 ≤ x12_1
                        · rw [if_pos c29] at H
                          have c29b0 : decide (0 ≤ x12_1) = true := decide_eq_true c29
                          clear c29
                          by_cases c30 : x12_1 < (x10_1.length : Int)
                          · rw [if_pos c30] at H
                            have c30b0 : decide (x12_1 < (x10_1.length : Int)) = true := decide_eq_true c30
                            clear c30
                            obtain ⟨y136, hy136⟩ : ∃ y_ : List Int, y_ = (x10_1.set (x12_1 : Int).toNat (ji28)) := ⟨_, rfl⟩
                            replace H : (dynamics_Speeds.l0 k1 l0 a1 y124 y136 t132 (wrap64 (x12_1 + 1)) a2_0 a2_1 a2_2 a2_3 a2_4) = some (r1, r2) := by first | (rw [hy136]; with_reducible exact H) | (have H2_ := (Option.bind_some _ _).symm.trans H; rw [hy136]; with_reducible exact H2_) | (have H2_ := (Option.bind_some _ _).symm.trans H; with_reducible exact H2_) | with_reducible exact H | (rw [hy136]; exact H) | exact H
                            have Ny136 := Aside0.mk hy136
                            clear hy136
                            have H' := Aside0.mk H
                            clear H
                            have hcz32_0 : wr.cell? ⟨gb122, 0, none⟩ = some (.string a2_0) := (blk_cell BK122.out 0).trans rfl
                            have hcz32_1 : wr.cell? ⟨gb122, 1, none⟩ = some (.int .i64 a2_1) := (blk_cell BK122.out 1).trans rfl
                            have hcz32_2 : wr.cell? ⟨gb122, 2, none⟩ = some (.int .i64 a2_2) := (blk_cell BK122.out 2).trans rfl
                            have hcz32_3 : wr.cell? ⟨gb122, 3, none⟩ = some (.int .i64 a2_3) := (blk_cell BK122.out 3).trans rfl
                            have hcz32_4 : wr.cell? ⟨gb122, 4, none⟩ = some (.int .i64 a2_4) := (blk_cell BK122.out 4).trans rfl
                            have hfz32_0 := blk_frozen BK122.out 0
                            have hfz32_1 := blk_frozen BK122.out 1
                            have hfz32_2 := blk_frozen BK122.out 2
                            have hfz32_3 := blk_frozen BK122.out 3
                            have hfz32_4 := blk_frozen BK122.out 4
                            try go_wp2_with (first | ((with_reducible refine gate_callee (f := 27) rfl ?_); refine goesL_ (some 47) rfl rfl Try.func27 (by kernel_rfl) rfl #[.slice A0 l0.length c0, .int .i64 (wrap64 (a1 + x12_1)), .agg #[.string a2_0, .int .i64 a2_1, .int .i64 a2_2, .int .i64 a2_3, .int .i64 a2_4]] rfl (by (try simp only [List.map_toArray, List.map_cons, List.map_nil]); first | done | rfl | (simp only [List.length_drop, List.length_take]; rfl)) ?_; (with_reducible refine (dynamics_limit.calls k1 _ _ l0 (wrap64 (a1 + x12_1)) a2_0 a2_1 a2_2 a2_3 a2_4 t132 _ ?side1 ?side2 A21.out).mono ?_); (case side1 => repeat (first | exact (Kd.C_below HR0.out HB.out) | (with_reducible refine Kd.C_alloc ?_ _) | (with_reducible refine Kd.C_drewN ?_ _) | (with_reducible refine Kd.C_drew ?_))); (case side2 => exact HC0.out); rintro e w33 ⟨rfl, hb⟩; refine ⟨_, rfl, ?_⟩; have n0_ := Aside0.mk (Kd.R_below (by (with_reducible repeat (first | apply Kd.R_alloc | apply Kd.R_drewN | apply Kd.R_drew)); exact HO_10.out) hb); have n1_ := Aside0.mk (blk_below (g := gb122) (o := .cells #[.string a2_0, .int .i64 a2_1, .int .i64 a2_2, .int .i64 a2_3, .int .i64 a2_4] 26 (0, 0)) (by (with_reducible repeat (first | refine blk_drewN ?_ _ | refine blk_drew ?_ | refine blk_alloc ?_ _)); exact BK122.out) hb); have n2_ := Aside0.mk (below_step (by repeat (first | (with_reducible first | exact HB.out | apply below_alloc | apply pw_below_drewN | apply below_drew1 | refine below_set ?_ GE122.out) | exact HB.out)) hb); clear HO_10; clear BK122; clear HB; have HO_10 := n0_; have BK122 := n1_; have HB := n2_; clear n0_ n1_ n2_; (try clear hb); (try clear hb2); (try clear hk); (try clear hi)))
                            have n0_ := Aside0.mk (Kd.R_drew HO_10.out)
                            have n1_ := Aside0.mk (blk_drew BK122.out)
                            have n2_ := Aside0.mk (below_drew1 HB.out)
                            clear HO_10
                            clear BK122
                            clear HB
                            have HO_10 := n0_
                            have BK122 := n1_
                            have HB := n2_
                            clear n0_ n1_ n2_
                            obtain ⟨Ao35, co35, eo35⟩ := Kd.R_slice HO_10.out
                            (first | subst eo35 | (injection eo35 with f1_ f2_ f3_; have f4_ := f1_.symm; have f5_ := f3_.symm; clear f1_ f2_ f3_; subst f4_; subst f5_))
                            have p133 : 0 ≤ ((ji23) : Int) := of_decide_eq_true (by first | (with_reducible assumption) | assumption)
                            have q133 : (ji23) < (x10_1.length : Int) := of_decide_eq_true (by first | (with_reducible assumption) | assumption)
                            obtain ⟨ad133, e133, hx133_0⟩ := Kd.at_int (Kd.R_reads' HO_10.out).2.2 (ji23) p133 q133
                            cases e133
                            replace p133 := eq_true p133
                            replace q133 := eq_true q133
                            have p134 : 0 ≤ ((ji23) : Int) := of_decide_eq_true (by first | (with_reducible assumption) | assumption)
                            have q134 : (ji23) < (y124.length : Int) := of_decide_eq_true (by first | (with_reducible assumption) | assumption)
                            obtain ⟨ad134, e134, hx134_0, hx134_1⟩ := at_T34 HR127.out (ji23) p134 q134
                            have hw134_1 := hx134_1
                            have hw134_0 := hx134_0
                            cases e134
                            replace hx134_0 := (HB.out.cell (World.block_lt_of_cell? w _ hx134_0)).trans hx134_0
                            replace hx134_1 := (HB.out.cell (World.block_lt_of_cell? w _ hx134_1)).trans hx134_1
                            replace p134 := eq_true p134
                            replace q134 := eq_true q134
                            refine start_ (n := 21) (S := fun w' => w'.cell? ⟨gb122, 0, none⟩ = some (.string a2_0) ∧ w'.cell? ⟨gb122, 1, none⟩ = some (.int .i64 a2_1) ∧ w'.cell? ⟨gb122, 2, none⟩ = some (.int .i64 a2_2) ∧ w'.cell? ⟨gb122, 3, none⟩ = some (.int .i64 a2_3) ∧ w'.cell? ⟨gb122, 4, none⟩ = some (.int .i64 a2_4) ∧ w'.cell? (ad133.add ((ji23)).toNat) = some (.int .i64 (rd x10_1 (ji23))) ∧ w'.cell? (ad134.add (((ji23)).toNat * 2)) = some (.int .i64 ((rd_T34 y124 (ji23)).f0)) ∧ w'.cell? ⟨(ad134.add (((ji23)).toNat * 2)).block, (ad134.add (((ji23)).toNat * 2)).off + 1, none⟩ = some (.int .i64 ((rd_T34 y124 (ji23)).f1))) (ds := [20]) #[false, false, false, false, false, false, false, false, false, false, false, false, false, false, false, false, false, false, false, false, false] (by kernel_rfl) rfl rfl ⟨(blk_cell BK122.out 0).trans rfl, (blk_cell BK122.out 1).trans rfl, (blk_cell BK122.out 2).trans rfl, (blk_cell BK122.out 3).trans rfl, (blk_cell BK122.out 4).trans rfl, hx133_0, ((HB.out.cell (World.block_lt_of_cell? w _ hw134_0)).trans hw134_0), ((HB.out.cell (World.block_lt_of_cell? w _ hw134_1)).trans hw134_1)⟩ (fun hHeld => ?_); refine with_tabW dynamics_Speeds.tab12 dynamics_Speeds.bits12 (fun HT_ HW_ => ?_)
                            generalize w33.drew = w34 at HO_10 BK122 HB hx133_0 hx134_0 hx134_1 hHeld ⊢
                            refine pure_ (i := 0) (N := some 51) (v := ?_) (a' := ?_) #[true, false, false, false, false, false, false, false, false, false, false, false, false, false, false, false, false, false, false, false, false] rfl rfl (any_of HT_.out (by kernel_rfl)) (fun _ _ _ h => h) (Or.inl ⟨by rfl, ?_⟩) ?_ ?_
                            rotate_left
                            · intro w'
                              go_simp
                              with_reducible rfl
                            rotate_left
                            · simp only [Act.put, List.setIfInBounds_toArray, List.set_cons_zero, List.set_cons_succ, i64_w, i32_w]
                              rfl
                            refine pure_ (i := 1) (N := some 52) (v := ?_) (a' := ?_) #[true, true, false, false, false, false, false, false, false, false, false, false, false, false, false, false, false, false, false, false, false] rfl rfl (any_of HT_.out (by kernel_rfl)) (fun _ _ _ h => h) (Or.inl ⟨by rfl, ?_⟩) ?_ ?_
                            rotate_left
                            · intro w'
                              go_simp
                              with_reducible rfl
                            rotate_left
                            · simp only [Act.put, List.setIfInBounds_toArray, List.set_cons_zero, List.set_cons_succ, i64_w, i32_w]
                              rfl
                            refine pure_ (i := 2) (N := some 53) (v := ?_) (a' := ?_) #[true, true, true, false, false, false, false, false, false, false, false, false, false, false, false, false, false, false, false, false, false] rfl rfl (any_of HT_.out (by kernel_rfl)) (fun _ _ _ h => h) (Or.inl ⟨by rfl, ?_⟩) ?_ ?_
                            rotate_left
                            · intro w'
                              go_simp
                              with_reducible rfl
                            rotate_left
                            · simp only [Act.put, List.setIfInBounds_toArray, List.set_cons_zero, List.set_cons_succ, i64_w, i32_w]
                              rfl
                            refine pure_ (i := 3) (N := some 54) (v := ?_) (a' := ?_) #[true, true, true, true, false, false, false, false, false, false, false, false, false, false, false, false, false, false, false, false, false] rfl rfl (any_of HT_.out (by kernel_rfl)) (fun _ _ _ h => h) (Or.inl ⟨by rfl, ?_⟩) ?_ ?_
                            rotate_left
                            · intro w'
                              go_simp
                              with_reducible rfl
                            rotate_left
                            · simp only [Act.put, List.setIfInBounds_toArray, List.set_cons_zero, List.set_cons_succ, i64_w, i32_w]
                              rfl
                            refine pure_ (i := 4) (N := some 55) (v := ?_) (a' := ?_) #[true, true, true, true, true, false, false, false, false, false, false, false, false, false, false, false, false, false, false, false, false] rfl rfl (any_of HT_.out (by kernel_rfl)) (fun _ _ _ h => h) (Or.inl ⟨by rfl, ?_⟩) ?_ ?_
                            rotate_left
                            · intro w'
                              go_simp
                              with_reducible rfl
                            rotate_left
                            · simp only [Act.put, List.setIfInBounds_toArray, List.set_cons_zero, List.set_cons_succ, i64_w, i32_w]
                              rfl
                            refine pure_ (i := 5) (N := some 56) (v := ?_) (a' := ?_) #[true, true, true, true, true, true, false, false, false, false, false, false, false, false, false, false, false, false, false, false, false] rfl rfl (any_of HT_.out (by kernel_rfl)) (fun _ _ _ h => h) (Or.inl ⟨by rfl, ?_⟩) ?_ ?_
                            rotate_left
                            · intro w'
                              go_simp
                              with_reducible rfl
                            rotate_left
                            · simp only [Act.put, List.setIfInBounds_toArray, List.set_cons_zero, List.set_cons_succ, i64_w, i32_w]
                              rfl
                            refine pure_ (i := 6) (N := some 57) (v := ?_) (a' := ?_) #[true, true, true, true, true, true, true, false, false, false, false, false, false, false, false, false, false, false, false, false, false] rfl rfl (any_of HT_.out (by kernel_rfl)) (fun _ _ _ h => h) (Or.inl ⟨by rfl, ?_⟩) ?_ ?_
                            rotate_left
                            · intro w'
                              go_simp
                              with_reducible rfl
                            rotate_left
                            · simp only [Act.put, List.setIfInBounds_toArray, List.set_cons_zero, List.set_cons_succ, i64_w, i32_w]
                              rfl
                            refine pure_ (i := 7) (N := some 58) (v := ?_) (a' := ?_) #[true, true, true, true, true, true, true, true, false, false, false, false, false, false, false, false, false, false, false, false, false] rfl rfl (any_of HT_.out (by kernel_rfl)) (fun _ _ _ h => h) (Or.inl ⟨by rfl, ?_⟩) ?_ ?_
                            rotate_left
                            · intro w'
                              go_simp
                              with_reducible rfl
                            rotate_left
                            · simp only [Act.put, List.setIfInBounds_toArray, List.set_cons_zero, List.set_cons_succ, i64_w, i32_w]
                              rfl
                            refine pure_ (i := 8) (N := some 59) (v := ?_) (a' := ?_) #[true, true, true, true, true, true, true, true, true, false, false, false, false, false, false, false, false, false, false, false, false] rfl rfl (any_of HT_.out (by kernel_rfl)) (fun _ _ _ h => h) (Or.inl ⟨by rfl, ?_⟩) ?_ ?_
                            rotate_left
                            · intro w'
                              go_simp
                              with_reducible rfl
                            rotate_left
                            · simp only [Act.put, List.setIfInBounds_toArray, List.set_cons_zero, List.set_cons_succ, i64_w, i32_w]
                              rfl
                            refine pure_ (i := 10) (N := some 61) (v := ?_) (a' := ?_) #[true, true, true, true, true, true, true, true, true, false, true, false, false, false, false, false, false, false, false, false, false] rfl rfl (any_of HT_.out (by kernel_rfl)) (fun _ _ _ h => h) (Or.inl ⟨by rfl, ?_⟩) ?_ ?_
                            rotate_left
                            · intro w'
                              go_simp
                              with_reducible rfl
                            rotate_left
                            · simp only [Act.put, List.setIfInBounds_toArray, List.set_cons_zero, List.set_cons_succ, i64_w, i32_w]
                              rfl
                            refine pure_ (i := 11) (N := some 62) (v := ?_) (a' := ?_) #[true, true, true, true, true, true, true, true, true, false, true, true, false, false, false, false, false, false, false, false, false] rfl rfl (any_of HT_.out (by kernel_rfl)) (fun _ _ _ h => h) (Or.inl ⟨by rfl, ?_⟩) ?_ ?_
                            rotate_left
                            · intro w'
                              go_simp
                              with_reducible rfl
                            rotate_left
                            · simp only [Act.put, List.setIfInBounds_toArray, List.set_cons_zero, List.set_cons_succ, i64_w, i32_w]
                              rfl
                            refine pure_ (i := 12) (N := some 63) (v := ?_) (a' := ?_) #[true, true, true, true, true, true, true, true, true, false, true, true, true, false, false, false, false, false, false, false, false] rfl rfl (any_of HT_.out (by kernel_rfl)) (fun _ _ _ h => h) (Or.inl ⟨by rfl, ?_⟩) ?_ ?_
                            rotate_left
                            · intro w'
                              go_simp
                              with_reducible rfl
                            rotate_left
                            · simp only [Act.put, List.setIfInBounds_toArray, List.set_cons_zero, List.set_cons_succ, i64_w, i32_w]
                              rfl
                            refine pure_ (i := 13) (N := some 64) (v := ?_) (a' := ?_) #[true, true, true, true, true, true, true, true, true, false, true, true, true, true, false, false, false, false, false, false, false] rfl rfl (any_of HT_.out (by kernel_rfl)) (fun _ _ _ h => h) (Or.inl ⟨by rfl, ?_⟩) ?_ ?_
                            rotate_left
                            · intro w'
                              go_simp
                              with_reducible rfl
                            rotate_left
                            · simp only [Act.put, List.setIfInBounds_toArray, List.set_cons_zero, List.set_cons_succ, i64_w, i32_w]
                              rfl
                            refine take_ (i := 9) (N := some 60) (v := ?_) (a' := ?_) #[true, true, true, true, true, true, true, true, true, true, true, true, true, true, false, false, false, false, false, false, false] rfl rfl (take_ofW HT_.out HW_.out (by kernel_rfl)) (fun _ _ _ h => h) (Or.inl ⟨by rfl, ?_⟩) hHeld ?_ ?_
                            rotate_left
                            · rintro w' ⟨s0, s1, s2, s3, s4, s5, s6, s7⟩
                              go_simp
                              with_reducible rfl
                            rotate_left
                            · simp only [Act.put, List.setIfInBounds_toArray, List.set_cons_zero, List.set_cons_succ, i64_w, i32_w]
                              rfl
                            refine take_ (i := 14) (N := some 65) (v := ?_) (a' := ?_) #[true, true, true, true, true, true, true, true, true, true, true, true, true, true, true, false, false, false, false, false, false] rfl rfl (take_ofW HT_.out HW_.out (by kernel_rfl)) (fun _ _ _ h => h) (Or.inl ⟨by rfl, ?_⟩) hHeld ?_ ?_
                            rotate_left
                            · rintro w' ⟨s0, s1, s2, s3, s4, s5, s6, s7⟩
                              go_simp
                              with_reducible rfl
                            rotate_left
                            · simp only [Act.put, List.setIfInBounds_toArray, List.set_cons_zero, List.set_cons_succ, i64_w, i32_w]
                              rfl
                            refine take_ (i := 15) (N := some 66) (v := ?_) (a' := ?_) #[true, true, true, true, true, true, true, true, true, true, true, true, true, true, true, true, false, false, false, false, false] rfl rfl (take_ofW HT_.out HW_.out (by kernel_rfl)) (fun _ _ _ h => h) (Or.inl ⟨by rfl, ?_⟩) hHeld ?_ ?_
                            rotate_left
                            · rintro w' ⟨s0, s1, s2, s3, s4, s5, s6, s7⟩
                              go_simp
                              with_reducible rfl
                            rotate_left
                            · simp only [Act.put, List.setIfInBounds_toArray, List.set_cons_zero, List.set_cons_succ, i64_w, i32_w]
                              rfl
                            refine one_ (i := 16) (N := some 67) #[true, true, true, true, true, true, true, true, true, true, true, true, true, true, true, true, true, false, false, false, false] rfl rfl (one_of HT_.out (by kernel_rfl)) (by decide) (fun K hK => ?_)
                            refine goes_ Try.func28 (by kernel_rfl) rfl #[.agg #[.int .i64 ((rd_T34 y124 (ji23)).f0), .int .i64 ((rd_T34 y124 (ji23)).f1)], .agg #[.string a2_0, .int .i64 a2_1, .int .i64 a2_2, .int .i64 a2_3, .int .i64 a2_4]] (by rfl) rfl rfl (by (try simp only [List.map_toArray, List.map_cons, List.map_nil]); first | done | (simp only [hji23]; rfl) | rfl | (simp only [List.length_drop, List.length_take]; rfl)) ?_
                            with_reducible refine (dynamics_gain.calls ((rd_T34 y124 (ji23)).f0) ((rd_T34 y124 (ji23)).f1) a2_0 a2_1 a2_2 a2_3 a2_4 t135 _ A27.out).mono ?_
                            rintro e w36 ⟨rfl, hb⟩
                            have HS5_ := (hb.cell (World.block_lt_of_cell? _ _ (hHeld.2.2.2.2.2.1))).trans (hHeld.2.2.2.2.2.1)
                            refine ⟨_, rfl, ?_⟩
                            have n0_ := Aside0.mk (Kd.R_below (by (with_reducible repeat (first | apply Kd.R_alloc | apply Kd.R_drewN | apply Kd.R_drew)); exact HO_10.out) hb)
                            have n1_ := Aside0.mk (blk_below (g := gb122) (o := .cells #[.string a2_0, .int .i64 a2_1, .int .i64 a2_2, .int .i64 a2_3, .int .i64 a2_4] 26 (0, 0)) (by (with_reducible repeat (first | refine blk_drewN ?_ _ | refine blk_drew ?_ | refine blk_alloc ?_ _)); exact BK122.out) hb)
                            have n2_ := Aside0.mk (below_step (by repeat (first | (with_reducible first | exact HB.out | apply below_alloc | apply pw_below_drewN | apply below_drew1 | refine below_set ?_ GE122.out) | exact HB.out)) hb)
                            clear HO_10
                            clear BK122
                            clear HB
                            have HO_10 := n0_
                            have BK122 := n1_
                            have HB := n2_
                            clear n0_ n1_ n2_
                            (try clear hb)
                            (try clear hb2)
                            (try clear hk)
                            (try clear hi)
                            have p31 : 0 ≤ (x12_1 : Int) := of_decide_eq_true (by first | (with_reducible assumption) | assumption)
                            have q31 : (x12_1 : Int) < ((x10_1.length : Int) : Int) := of_decide_eq_true (by first | (with_reducible assumption) | assumption)
                            obtain ⟨go31, co31, eo31, gb31, gl31, cl31, HG31⟩ := Kd.R_form HO_10.out (by omega)
                            (first | cases eo31 | (injection eo31 with ea_ en_ ec_; (first | subst ea_ | (injection ea_ with ea_; subst ea_)); subst ec_; clear en_))
                            have GB31 := Aside0.mk gb31
                            have GG31 := Aside0.mk HG31
                            clear gb31 gl31 HG31
                            (first | simp only [add_plain] at hx133_0 | skip)
                            obtain ⟨hx31_0, hf31_0⟩ := Kd.R_celln 0 HO_10.out (x12_1 : Int) p31 q31
                            replace p31 := eq_true p31
                            replace q31 := eq_true q31
                            have HP37 := Kd.R_putn HO_10.out (x12_1 : Int) ji28
                            rw [← Ny136.out] at HP37
                            have HQ37 := Aside0.mk HP37
                            clear HP37
                            refine hK.out _ _ ⟨(blk_cell BK122.out 0).trans rfl, (blk_cell BK122.out 1).trans rfl, (blk_cell BK122.out 2).trans rfl, (blk_cell BK122.out 3).trans rfl, (blk_cell BK122.out 4).trans rfl, HS5_, ((HB.out.cell (World.block_lt_of_cell? w _ hw134_0)).trans hw134_0), ((HB.out.cell (World.block_lt_of_cell? w _ hw134_1)).trans hw134_1)⟩ (fun hHeld => ?_)
                            clear hK K
                            refine norm_ (a' := ?_) ?_ ?_
                            rotate_left
                            · show Act.put _ (some 67) _ = _
                              simp only [Act.put, List.setIfInBounds_toArray, List.set_cons_zero, List.set_cons_succ, i64_w, i32_w]
                              rfl
                            refine pure_ (i := 17) (N := some 68) (v := ?_) (a' := ?_) #[true, true, true, true, true, true, true, true, true, true, true, true, true, true, true, true, true, true, false, false, false] rfl rfl (any_of HT_.out (by kernel_rfl)) (fun _ _ _ h => h) (Or.inl ⟨by rfl, ?_⟩) ?_ ?_
                            rotate_left
                            · intro w'
                              go_simp
                              with_reducible rfl
                            rotate_left
                            · simp only [Act.put, List.setIfInBounds_toArray, List.set_cons_zero, List.set_cons_succ, i64_w, i32_w]
                              rfl
                            refine pure_ (i := 18) (N := some 69) (v := ?_) (a' := ?_) #[true, true, true, true, true, true, true, true, true, true, true, true, true, true, true, true, true, true, true, false, false] rfl rfl (any_of HT_.out (by kernel_rfl)) (fun _ _ _ h => h) (Or.inl ⟨by rfl, ?_⟩) ?_ ?_
                            rotate_left
                            · intro w'
                              go_simp
                              with_reducible rfl
                            rotate_left
                            · simp only [Act.put, List.setIfInBounds_toArray, List.set_cons_zero, List.set_cons_succ, i64_w, i32_w]
                              rfl
                            refine pure_ (i := 19) (N := some 70) (v := ?_) (a' := ?_) #[true, true, true, true, true, true, true, true, true, true, true, true, true, true, true, true, true, true, true, true, false] rfl rfl (any_of HT_.out (by kernel_rfl)) (fun _ _ _ h => h) (Or.inl ⟨by rfl, ?_⟩) ?_ ?_
                            rotate_left
                            · intro w'
                              go_simp
                              with_reducible rfl
                            rotate_left
                            · simp only [Act.put, List.setIfInBounds_toArray, List.set_cons_zero, List.set_cons_succ, i64_w, i32_w]
                              rfl
                            refine last_ (i := 20) (N := none) #[true, true, true, true, true, true, true, true, true, true, true, true, true, true, true, true, true, true, true, true, true] rfl rfl (one_of HT_.out (by kernel_rfl)) (by decide) (fun K hK => ?_)
                            refine skip_ (w1 := ?_) (by rfl) rfl ?_ ?_
                            rotate_left
                            · go_simp
                              rfl
                            refine hK.out _ _ ?_
                            clear hK K
                            refine done_ (done_of HT_.out (by kernel_rfl)) ?_
                            try go_wp2
                            go_roundg k1
                            case measure => have := HK1.out; omega
                            case rel => exact ⟨(y136), (t132), (wrap64 (x12_1 + 1)), (by first | rfl | (simp; done) | (simp [*]; done)), (by first | rfl | (simp; done) | (simp [*]; done)), H', ⟨by have := HK1.out; omega⟩, ⟨by (with_reducible repeat (first | apply Kd.R_alloc | apply Kd.R_drewN | apply Kd.R_drew)); exact HQ37.out⟩, ⟨by (with_reducible repeat (first | refine blk_drewN ?_ _ | refine blk_drew ?_ | refine blk_alloc ?_ _)); refine blk_far ?_ (by have h_ := Kd.R_ne HO_10.out BK122.out (by decide); intro e_; exact h_ (by rw [e_]; rfl)) _; (with_reducible repeat (first | refine blk_drewN ?_ _ | refine blk_drew ?_ | refine blk_alloc ?_ _)); exact BK122.out⟩, ⟨by repeat (first | (with_reducible first | exact HB.out | apply below_alloc | apply pw_below_drewN | apply below_drew1 | refine below_set ?_ GB31.out | refine below_set ?_ GE122.out) | exact HB.out)⟩⟩
                          · rw [if_neg c30] at H
                            exact absurd H (by simp)
                        · rw [if_neg c29] at H
                          exact absurd H (by simp)
                      · rw [if_neg c26] at H
                        exact absurd H (by simp)
                    · rw [if_neg c25] at H
                      exact absurd H (by simp)
                  · rw [if_neg c24] at H
                    exact absurd H (by simp)
                · rw [if_neg c20] at H
                  have c20b0 : decide (x12_1 < (y124.length : Int)) = false := decide_eq_false c20
                  clear c20
                  have H' := Aside0.mk H
                  clear H
                  go_wp2
                  go_loopg [15] k1 (fun kq v15 w' => ∃ (x10_2 : List Int) (x15_2 : Int), v15 = .int .i64 x15_2 ∧ Aside0 (dynamics_Speeds.l1 kq y124 x10_2 x15_2 a2_0 a2_1 a2_2 a2_3 a2_4 = some (r1, r2)) ∧ Aside0 (kq ≤ k1) ∧ Aside0 (Kd.R (Kd.int .i64) 3 w' w.heap.size (fun _ => True) v129 x10_2) ∧ Aside0 (w'.heap[gb122]? = some (.cells #[.string a2_0, .int .i64 a2_1, .int .i64 a2_2, .int .i64 a2_3, .int .i64 a2_4] 26 (0, 0))) ∧ Aside0 (Below w.heap.size w w'))
                  case atStart => exact ⟨(x10_1), (wrap64 ((y124.length : Int) - 1)), (by first | rfl | (simp; done) | (simp [*]; done)), H', ⟨Nat.le_refl _⟩, ⟨by (with_reducible repeat (first | apply Kd.R_alloc | apply Kd.R_drewN | apply Kd.R_drew)); exact HO_10.out⟩, ⟨by (with_reducible repeat (first | refine blk_drewN ?_ _ | refine blk_drew ?_ | refine blk_alloc ?_ _)); exact BK122.out⟩, ⟨by repeat (first | (with_reducible first | exact HB.out | apply below_alloc | apply pw_below_drewN | apply below_drew1 | refine below_set ?_ GE122.out) | exact HB.out)⟩⟩
                  case round =>
                    clear H'
                    try clear c1
                    try clear p1
                    try clear q1
                    try clear hx1
                    try clear c2
                    try clear p2
                    try clear c3
                    try clear p3
                    try clear q3
                    try clear hx3
                    try clear hf3
                    try clear c5
                    try clear c5b0
                    try clear c5b1
                    try clear c6
                    try clear c6b0
                    try clear c6b1
                    try clear p6
                    try clear c7
                    try clear c7b0
                    try clear c7b1
                    try clear c9
                    try clear c9b0
                    try clear c9b1
                    try clear c10
                    try clear c10b0
                    try clear c10b1
                    try clear p13
                    try clear q13
                    try clear hx13
                    try clear c15
                    try clear q15
                    try clear c17
                    try clear c20
                    try clear c20b0
                    try clear c24
                    try clear c24b0
                    try clear c25
                    try clear c25b0
                    try clear c26
                    try clear c26b0
                    try clear c27
                    try clear c28
                    try clear c29
                    try clear c29b0
                    try clear c30
                    try clear c30b0
                    try clear p31
                    try clear q31
                    try clear hx31
                    try clear hf31
                    try clear hcz13_0
                    try clear hcz13_1
                    try clear hcz13_2
                    try clear hcz13_3
                    try clear hcz13_4
                    try clear hcz18_0
                    try clear hcz18_1
                    try clear hcz18_2
                    try clear hcz18_3
                    try clear hcz18_4
                    try clear hcz32_0
                    try clear hcz32_1
                    try clear hcz32_2
                    try clear hcz32_3
                    try clear hcz32_4
                    try clear hfz13_0
                    try clear hfz13_1
                    try clear hfz13_2
                    try clear hfz13_3
                    try clear hfz13_4
                    try clear hfz18_0
                    try clear hfz18_1
                    try clear hfz18_2
                    try clear hfz18_3
                    try clear hfz18_4
                    try clear hfz32_0
                    try clear hfz32_1
                    try clear hfz32_2
                    try clear hfz32_3
                    try clear hfz32_4
                    try clear hx133_0
                    try clear hx134_0
                    try clear hx134_1
                    try clear hx31_0
                    try clear p133
                    try clear p134
                    try clear p2
                    try clear p31
                    try clear p6
                    try clear q015
                    try clear q1
                    try clear q133
                    try clear q134
                    try clear q15
                    try clear q31
                    obtain ⟨x10_2, x15_2, rfl, HA, HK2, HO_10, BK122, HB⟩ := hrel
                    cases gk with
                    | zero => exact absurd HA.out (by simp [dynamics_Speeds.l1])
                    | succ k2 =>
                      have H := HA.out
                      clear HA
                      simp only [dynamics_Speeds.l1] at H
                      by_cases c38 : x15_2 > 0
                      · rw [if_pos c38] at H
                        have c38b0 : decide (0 < x15_2) = true := decide_eq_true c38
                        clear c38
                        by_cases c39 : 0 ≤ x15_2
                        · rw [if_pos c39] at H
                          have c39b0 : decide (0 ≤ x15_2) = true := decide_eq_true c39
                          clear c39
                          by_cases c40 : x15_2 < (x10_2.length : Int)
                          · rw [if_pos c40] at H
                            have c40b0 : decide (x15_2 < (x10_2.length : Int)) = true := decide_eq_true c40
                            clear c40
                            obtain ⟨ji41, hji41⟩ : ∃ j_ : Int, (wrap64 (x15_2 + 1)) = j_ := ⟨_, rfl⟩
                            replace H : (if 0 ≤ (ji41) then (if (ji41) < (x10_2.length : Int) then (if x15_2 < (y124.length : Int) then ((dynamics_loss.f ((rd_T34 y124 x15_2).f0) ((rd_T34 y124 x15_2).f1) a2_0 a2_1 a2_2 a2_3 a2_4).bind fun t140 => (dynamics_Speeds.l1 k2 y124 (x10_2.set (x15_2 : Int).toNat (mn (rd x10_2 x15_2) (wrap64 ((rd x10_2 (ji41)) + t140)))) (wrap64 (x15_2 - 1)) a2_0 a2_1 a2_2 a2_3 a2_4)) else (none)) else (none)) else (none)) = some (r1, r2) := by first | (rw [hji41] at H; exact H) | (simp only [hji41] at H ⊢; exact H)
                            have hji41w : (IntKind.i64.wrap (x15_2 + 1)) = ji41 := (i64_w _).trans hji41
                            by_cases c42 : 0 ≤ (ji41)
                            · rw [if_pos c42] at H
                              have c42b0 : decide (0 ≤ (ji41)) = true := decide_eq_true c42
                              clear c42
                              by_cases c43 : (ji41) < (x10_2.length : Int)
                              · rw [if_pos c43] at H
                                have c43b0 : decide ((ji41) < (x10_2.length : Int)) = true := decide_eq_true c43
                                clear c43
                                by_cases c44 : x15_2 < (y124.length : Int)
                                · rw [if_pos c44] at H
                                  have c44b0 : decide (x15_2 < (y124.length : Int)) = true := decide_eq_true c44
                                  clear c44
                                  replace H := Option.bind_eq_some_iff.mp H
                                  obtain ⟨t140, A450, H⟩ := H
                                  replace H : (dynamics_Speeds.l1 k2 y124 (x10_2.set (x15_2 : Int).toNat (mn (rd x10_2 x15_2) (wrap64 ((rd x10_2 (ji41)) + t140)))) (wrap64 (x15_2 - 1)) a2_0 a2_1 a2_2 a2_3 a2_4) = some (r1, r2) := H
                                  have A45 := Aside0.mk A450
                                  clear A450
                                  obtain ⟨ji46, hji46⟩ : ∃ j_ : Int, (mn (rd x10_2 x15_2) (wrap64 ((rd x10_2 (ji41)) + t140))) = j_ := ⟨_, rfl⟩
                                  replace H : (dynamics_Speeds.l1 k2 y124 (x10_2.set (x15_2 : Int).toNat (ji46)) (wrap64 (x15_2 - 1)) a2_0 a2_1 a2_2 a2_3 a2_4) = some (r1, r2) := by first | (rw [hji46] at H; exact H) | (simp only [hji46] at H ⊢; exact H)
                                  (try rw [hji46] at A45)
                                  have hji46_ : (if (wrap64 ((rd x10_2 (ji41)) + t140)) < (rd x10_2 x15_2) then (wrap64 ((rd x10_2 (ji41)) + t140)) else (rd x10_2 x15_2)) = ji46 := hji46
                                  obtain ⟨y141, hy141⟩ : ∃ y_ : List Int, y_ = (x10_2.set (x15_2 : Int).toNat (ji46)) := ⟨_, rfl⟩
                                  replace H : (dynamics_Speeds.l1 k2 y124 y141 (wrap64 (x15_2 - 1)) a2_0 a2_1 a2_2 a2_3 a2_4) = some (r1, r2) := by first | (rw [hy141]; with_reducible exact H) | (have H2_ := (Option.bind_some _ _).symm.trans H; rw [hy141]; with_reducible exact H2_) | (have H2_ := (Option.bind_some _ _).symm.trans H; with_reducible exact H2_) | with_reducible exact H | (rw [hy141]; exact H) | exact H
                                  have Ny141 := Aside0.mk hy141
                                  clear hy141
                                  have H' := Aside0.mk H
                                  clear H
                                  try go_wp2
                                  have n0_ := Aside0.mk (Kd.R_drew HO_10.out)
                                  have n1_ := Aside0.mk (blk_drew BK122.out)
                                  have n2_ := Aside0.mk (below_drew1 HB.out)
                                  clear HO_10
                                  clear BK122
                                  clear HB
                                  have HO_10 := n0_
                                  have BK122 := n1_
                                  have HB := n2_
                                  clear n0_ n1_ n2_
                                  obtain ⟨Ao49, co49, eo49⟩ := Kd.R_slice HO_10.out
                                  (first | subst eo49 | (injection eo49 with f1_ f2_ f3_; have f4_ := f1_.symm; have f5_ := f3_.symm; clear f1_ f2_ f3_; subst f4_; subst f5_))
                                  have p137 : 0 ≤ (x15_2 : Int) := of_decide_eq_true (by first | (with_reducible assumption) | assumption)
                                  have q137 : x15_2 < (x10_2.length : Int) := of_decide_eq_true (by first | (with_reducible assumption) | assumption)
                                  obtain ⟨ad137, e137, hx137_0⟩ := Kd.at_int (Kd.R_reads' HO_10.out).2.2 x15_2 p137 q137
                                  cases e137
                                  replace p137 := eq_true p137
                                  replace q137 := eq_true q137
                                  have p138 : 0 ≤ ((ji41) : Int) := of_decide_eq_true (by first | (with_reducible assumption) | assumption)
                                  have q138 : (ji41) < (x10_2.length : Int) := of_decide_eq_true (by first | (with_reducible assumption) | assumption)
                                  obtain ⟨ad138, e138, hx138_0⟩ := Kd.at_int (Kd.R_reads' HO_10.out).2.2 (ji41) p138 q138
                                  obtain rfl : ad137 = ad138 := (by injection e138)
                                  replace p138 := eq_true p138
                                  replace q138 := eq_true q138
                                  have p139 : 0 ≤ (x15_2 : Int) := of_decide_eq_true (by first | (with_reducible assumption) | assumption)
                                  have q139 : x15_2 < (y124.length : Int) := of_decide_eq_true (by first | (with_reducible assumption) | assumption)
                                  obtain ⟨ad139, e139, hx139_0, hx139_1⟩ := at_T34 HR127.out x15_2 p139 q139
                                  have hw139_1 := hx139_1
                                  have hw139_0 := hx139_0
                                  cases e139
                                  replace hx139_0 := (HB.out.cell (World.block_lt_of_cell? w _ hx139_0)).trans hx139_0
                                  replace hx139_1 := (HB.out.cell (World.block_lt_of_cell? w _ hx139_1)).trans hx139_1
                                  replace p139 := eq_true p139
                                  replace q139 := eq_true q139
                                  refine start_ (n := 21) (S := fun w' => w'.cell? ⟨gb122, 0, none⟩ = some (.string a2_0) ∧ w'.cell? ⟨gb122, 1, none⟩ = some (.int .i64 a2_1) ∧ w'.cell? ⟨gb122, 2, none⟩ = some (.int .i64 a2_2) ∧ w'.cell? ⟨gb122, 3, none⟩ = some (.int .i64 a2_3) ∧ w'.cell? ⟨gb122, 4, none⟩ = some (.int .i64 a2_4) ∧ w'.cell? (ad137.add (x15_2).toNat) = some (.int .i64 (rd x10_2 x15_2)) ∧ w'.cell? (ad137.add ((ji41)).toNat) = some (.int .i64 (rd x10_2 (ji41))) ∧ w'.cell? (ad139.add ((x15_2).toNat * 2)) = some (.int .i64 ((rd_T34 y124 x15_2).f0)) ∧ w'.cell? ⟨(ad139.add ((x15_2).toNat * 2)).block, (ad139.add ((x15_2).toNat * 2)).off + 1, none⟩ = some (.int .i64 ((rd_T34 y124 x15_2).f1))) (ds := [20]) #[false, false, false, false, false, false, false, false, false, false, false, false, false, false, false, false, false, false, false, false, false] (by kernel_rfl) rfl rfl ⟨(blk_cell BK122.out 0).trans rfl, (blk_cell BK122.out 1).trans rfl, (blk_cell BK122.out 2).trans rfl, (blk_cell BK122.out 3).trans rfl, (blk_cell BK122.out 4).trans rfl, hx137_0, hx138_0, ((HB.out.cell (World.block_lt_of_cell? w _ hw139_0)).trans hw139_0), ((HB.out.cell (World.block_lt_of_cell? w _ hw139_1)).trans hw139_1)⟩ (fun hHeld => ?_); refine with_tabW dynamics_Speeds.tab17 dynamics_Speeds.bits17 (fun HT_ HW_ => ?_)
                                  generalize wr.drew = w48 at HO_10 BK122 HB hx137_0 hx138_0 hx139_0 hx139_1 hHeld ⊢
                                  refine pure_ (i := 0) (N := some 79) (v := ?_) (a' := ?_) #[true, false, false, false, false, false, false, false, false, false, false, false, false, false, false, false, false, false, false, false, false] rfl rfl (any_of HT_.out (by kernel_rfl)) (fun _ _ _ h => h) (Or.inl ⟨by rfl, ?_⟩) ?_ ?_
                                  rotate_left
                                  · intro w'
                                    go_simp
                                    with_reducible rfl
                                  rotate_left
                                  · simp only [Act.put, List.setIfInBounds_toArray, List.set_cons_zero, List.set_cons_succ, i64_w, i32_w]
                                    rfl
                                  refine pure_ (i := 1) (N := some 80) (v := ?_) (a' := ?_) #[true, true, false, false, false, false, false, false, false, false, false, false, false, false, false, false, false, false, false, false, false] rfl rfl (any_of HT_.out (by kernel_rfl)) (fun _ _ _ h => h) (Or.inl ⟨by rfl, ?_⟩) ?_ ?_
                                  rotate_left
                                  · intro w'
                                    go_simp
                                    with_reducible rfl
                                  rotate_left
                                  · simp only [Act.put, List.setIfInBounds_toArray, List.set_cons_zero, List.set_cons_succ, i64_w, i32_w]
                                    rfl
                                  refine pure_ (i := 2) (N := some 81) (v := ?_) (a' := ?_) #[true, true, true, false, false, false, false, false, false, false, false, false, false, false, false, false, false, false, false, false, false] rfl rfl (any_of HT_.out (by kernel_rfl)) (fun _ _ _ h => h) (Or.inl ⟨by rfl, ?_⟩) ?_ ?_
                                  rotate_left
                                  · intro w'
                                    go_simp
                                    with_reducible rfl
                                  rotate_left
                                  · simp only [Act.put, List.setIfInBounds_toArray, List.set_cons_zero, List.set_cons_succ, i64_w, i32_w]
                                    rfl
                                  refine pure_ (i := 3) (N := some 82) (v := ?_) (a' := ?_) #[true, true, true, true, false, false, false, false, false, false, false, false, false, false, false, false, false, false, false, false, false] rfl rfl (any_of HT_.out (by kernel_rfl)) (fun _ _ _ h => h) (Or.inl ⟨by rfl, ?_⟩) ?_ ?_
                                  rotate_left
                                  · intro w'
                                    go_simp
                                    with_reducible rfl
                                  rotate_left
                                  · simp only [Act.put, List.setIfInBounds_toArray, List.set_cons_zero, List.set_cons_succ, i64_w, i32_w]
                                    rfl
                                  refine pure_ (i := 4) (N := some 83) (v := ?_) (a' := ?_) #[true, true, true, true, true, false, false, false, false, false, false, false, false, false, false, false, false, false, false, false, false] rfl rfl (any_of HT_.out (by kernel_rfl)) (fun _ _ _ h => h) (Or.inl ⟨by rfl, ?_⟩) ?_ ?_
                                  rotate_left
                                  · intro w'
                                    go_simp
                                    with_reducible rfl
                                  rotate_left
                                  · simp only [Act.put, List.setIfInBounds_toArray, List.set_cons_zero, List.set_cons_succ, i64_w, i32_w]
                                    rfl
                                  refine pure_ (i := 6) (N := some 85) (v := ?_) (a' := ?_) #[true, true, true, true, true, false, true, false, false, false, false, false, false, false, false, false, false, false, false, false, false] rfl rfl (any_of HT_.out (by kernel_rfl)) (fun _ _ _ h => h) (Or.inl ⟨by rfl, ?_⟩) ?_ ?_
                                  rotate_left
                                  · intro w'
                                    go_simp
                                    with_reducible rfl
                                  rotate_left
                                  · simp only [Act.put, List.setIfInBounds_toArray, List.set_cons_zero, List.set_cons_succ, i64_w, i32_w]
                                    rfl
                                  refine pure_ (i := 7) (N := some 86) (v := ?_) (a' := ?_) #[true, true, true, true, true, false, true, true, false, false, false, false, false, false, false, false, false, false, false, false, false] rfl rfl (any_of HT_.out (by kernel_rfl)) (fun _ _ _ h => h) (Or.inl ⟨by rfl, ?_⟩) ?_ ?_
                                  rotate_left
                                  · intro w'
                                    go_simp
                                    with_reducible rfl
                                  rotate_left
                                  · simp only [Act.put, List.setIfInBounds_toArray, List.set_cons_zero, List.set_cons_succ, i64_w, i32_w]
                                    rfl
                                  refine pure_ (i := 8) (N := some 87) (v := ?_) (a' := ?_) #[true, true, true, true, true, false, true, true, true, false, false, false, false, false, false, false, false, false, false, false, false] rfl rfl (any_of HT_.out (by kernel_rfl)) (fun _ _ _ h => h) (Or.inl ⟨by rfl, ?_⟩) ?_ ?_
                                  rotate_left
                                  · intro w'
                                    go_simp
                                    with_reducible rfl
                                  rotate_left
                                  · simp only [Act.put, List.setIfInBounds_toArray, List.set_cons_zero, List.set_cons_succ, i64_w, i32_w]
                                    rfl
                                  refine pure_ (i := 9) (N := some 88) (v := ?_) (a' := ?_) #[true, true, true, true, true, false, true, true, true, true, false, false, false, false, false, false, false, false, false, false, false] rfl rfl (any_of HT_.out (by kernel_rfl)) (fun _ _ _ h => h) (Or.inl ⟨by rfl, ?_⟩) ?_ ?_
                                  rotate_left
                                  · intro w'
                                    go_simp
                                    with_reducible rfl
                                  rotate_left
                                  · simp only [Act.put, List.setIfInBounds_toArray, List.set_cons_zero, List.set_cons_succ, i64_w, i32_w]
                                    rfl
                                  refine pure_ (i := 11) (N := some 90) (v := ?_) (a' := ?_) #[true, true, true, true, true, false, true, true, true, true, false, true, false, false, false, false, false, false, false, false, false] rfl rfl (any_of HT_.out (by kernel_rfl)) (fun _ _ _ h => h) (Or.inl ⟨by rfl, ?_⟩) ?_ ?_
                                  rotate_left
                                  · intro w'
                                    go_simp
                                    with_reducible rfl
                                  rotate_left
                                  · simp only [Act.put, List.setIfInBounds_toArray, List.set_cons_zero, List.set_cons_succ, i64_w, i32_w]
                                    rfl
                                  refine pure_ (i := 12) (N := some 91) (v := ?_) (a' := ?_) #[true, true, true, true, true, false, true, true, true, true, false, true, true, false, false, false, false, false, false, false, false] rfl rfl (any_of HT_.out (by kernel_rfl)) (fun _ _ _ h => h) (Or.inl ⟨by rfl, ?_⟩) ?_ ?_
                                  rotate_left
                                  · intro w'
                                    go_simp
                                    with_reducible rfl
                                  rotate_left
                                  · simp only [Act.put, List.setIfInBounds_toArray, List.set_cons_zero, List.set_cons_succ, i64_w, i32_w]
                                    rfl
                                  refine pure_ (i := 13) (N := some 92) (v := ?_) (a' := ?_) #[true, true, true, true, true, false, true, true, true, true, false, true, true, true, false, false, false, false, false, false, false] rfl rfl (any_of HT_.out (by kernel_rfl)) (fun _ _ _ h => h) (Or.inl ⟨by rfl, ?_⟩) ?_ ?_
                                  rotate_left
                                  · intro w'
                                    go_simp
                                    with_reducible rfl
                                  rotate_left
                                  · simp only [Act.put, List.setIfInBounds_toArray, List.set_cons_zero, List.set_cons_succ, i64_w, i32_w]
                                    rfl
                                  refine take_ (i := 5) (N := some 84) (v := ?_) (a' := ?_) #[true, true, true, true, true, true, true, true, true, true, false, true, true, true, false, false, false, false, false, false, false] rfl rfl (take_ofW HT_.out HW_.out (by kernel_rfl)) (fun _ _ _ h => h) (Or.inl ⟨by rfl, ?_⟩) hHeld ?_ ?_
                                  rotate_left
                                  · rintro w' ⟨s0, s1, s2, s3, s4, s5, s6, s7, s8⟩
                                    go_simp
                                    with_reducible rfl
                                  rotate_left
                                  · simp only [Act.put, List.setIfInBounds_toArray, List.set_cons_zero, List.set_cons_succ, i64_w, i32_w]
                                    rfl
                                  refine take_ (i := 10) (N := some 89) (v := ?_) (a' := ?_) #[true, true, true, true, true, true, true, true, true, true, true, true, true, true, false, false, false, false, false, false, false] rfl rfl (take_ofW HT_.out HW_.out (by kernel_rfl)) (fun _ _ _ h => h) (Or.inl ⟨by rfl, ?_⟩) hHeld ?_ ?_
                                  rotate_left
                                  · rintro w' ⟨s0, s1, s2, s3, s4, s5, s6, s7, s8⟩
                                    go_simp
                                    with_reducible rfl
                                  rotate_left
                                  · simp only [Act.put, List.setIfInBounds_toArray, List.set_cons_zero, List.set_cons_succ, i64_w, i32_w]
                                    rfl
                                  refine take_ (i := 14) (N := some 93) (v := ?_) (a' := ?_) #[true, true, true, true, true, true, true, true, true, true, true, true, true, true, true, false, false, false, false, false, false] rfl rfl (take_ofW HT_.out HW_.out (by kernel_rfl)) (fun _ _ _ h => h) (Or.inl ⟨by rfl, ?_⟩) hHeld ?_ ?_
                                  rotate_left
                                  · rintro w' ⟨s0, s1, s2, s3, s4, s5, s6, s7, s8⟩
                                    go_simp
                                    with_reducible rfl
                                  rotate_left
                                  · simp only [Act.put, List.setIfInBounds_toArray, List.set_cons_zero, List.set_cons_succ, i64_w, i32_w]
                                    rfl
                                  refine take_ (i := 15) (N := some 94) (v := ?_) (a' := ?_) #[true, true, true, true, true, true, true, true, true, true, true, true, true, true, true, true, false, false, false, false, false] rfl rfl (take_ofW HT_.out HW_.out (by kernel_rfl)) (fun _ _ _ h => h) (Or.inl ⟨by rfl, ?_⟩) hHeld ?_ ?_
                                  rotate_left
                                  · rintro w' ⟨s0, s1, s2, s3, s4, s5, s6, s7, s8⟩
                                    go_simp
                                    with_reducible rfl
                                  rotate_left
                                  · simp only [Act.put, List.setIfInBounds_toArray, List.set_cons_zero, List.set_cons_succ, i64_w, i32_w]
                                    rfl
                                  refine one_ (i := 16) (N := some 95) #[true, true, true, true, true, true, true, true, true, true, true, true, true, true, true, true, true, false, false, false, false] rfl rfl (one_of HT_.out (by kernel_rfl)) (by decide) (fun K hK => ?_)
                                  refine goes_ Try.func29 (by kernel_rfl) rfl #[.agg #[.int .i64 ((rd_T34 y124 x15_2).f0), .int .i64 ((rd_T34 y124 x15_2).f1)], .agg #[.string a2_0, .int .i64 a2_1, .int .i64 a2_2, .int .i64 a2_3, .int .i64 a2_4]] (by rfl) rfl rfl (by (try simp only [List.map_toArray, List.map_cons, List.map_nil]); first | done | rfl | (simp only [List.length_drop, List.length_take]; rfl)) ?_
                                  with_reducible refine (dynamics_loss.calls ((rd_T34 y124 x15_2).f0) ((rd_T34 y124 x15_2).f1) a2_0 a2_1 a2_2 a2_3 a2_4 t140 _ A45.out).mono ?_
                                  rintro e w50 ⟨rfl, hb⟩
                                  have HS5_ := (hb.cell (World.block_lt_of_cell? _ _ (hHeld.2.2.2.2.2.1))).trans (hHeld.2.2.2.2.2.1)
                                  have HS6_ := (hb.cell (World.block_lt_of_cell? _ _ (hHeld.2.2.2.2.2.2.1))).trans (hHeld.2.2.2.2.2.2.1)
                                  refine ⟨_, rfl, ?_⟩
                                  have n0_ := Aside0.mk (Kd.R_below (by (with_reducible repeat (first | apply Kd.R_alloc | apply Kd.R_drewN | apply Kd.R_drew)); exact HO_10.out) hb)
                                  have n1_ := Aside0.mk (blk_below (g := gb122) (o := .cells #[.string a2_0, .int .i64 a2_1, .int .i64 a2_2, .int .i64 a2_3, .int .i64 a2_4] 26 (0, 0)) (by (with_reducible repeat (first | refine blk_drewN ?_ _ | refine blk_drew ?_ | refine blk_alloc ?_ _)); exact BK122.out) hb)
                                  have n2_ := Aside0.mk (below_step (by repeat (first | (with_reducible first | exact HB.out | apply below_alloc | apply pw_below_drewN | apply below_drew1 | refine below_set ?_ GE122.out) | exact HB.out)) hb)
                                  clear HO_10
                                  clear BK122
                                  clear HB
                                  have HO_10 := n0_
                                  have BK122 := n1_
                                  have HB := n2_
                                  clear n0_ n1_ n2_
                                  (try clear hb)
                                  (try clear hb2)
                                  (try clear hk)
                                  (try clear hi)
                                  have p47 : 0 ≤ (x15_2 : Int) := of_decide_eq_true (by first | (with_reducible assumption) | assumption)
                                  have q47 : (x15_2 : Int) < ((x10_2.length : Int) : Int) := of_decide_eq_true (by first | (with_reducible assumption) | assumption)
                                  obtain ⟨go47, co47, eo47, gb47, gl47, cl47, HG47⟩ := Kd.R_form HO_10.out (by omega)
                                  (first | cases eo47 | (injection eo47 with ea_ en_ ec_; (first | subst ea_ | (injection ea_ with ea_; subst ea_)); subst ec_; clear en_))
                                  have GB47 := Aside0.mk gb47
                                  have GG47 := Aside0.mk HG47
                                  clear gb47 gl47 HG47
                                  (first | simp only [add_plain] at hx137_0 | skip)
                                  (first | simp only [add_plain] at hx138_0 | skip)
                                  obtain ⟨hx47_0, hf47_0⟩ := Kd.R_celln 0 HO_10.out (x15_2 : Int) p47 q47
                                  replace p47 := eq_true p47
                                  replace q47 := eq_true q47
                                  have HP51 := Kd.R_putn HO_10.out (x15_2 : Int) ji46
                                  rw [← Ny141.out] at HP51
                                  have HQ51 := Aside0.mk HP51
                                  clear HP51
                                  refine hK.out _ _ ⟨(blk_cell BK122.out 0).trans rfl, (blk_cell BK122.out 1).trans rfl, (blk_cell BK122.out 2).trans rfl, (blk_cell BK122.out 3).trans rfl, (blk_cell BK122.out 4).trans rfl, HS5_, HS6_, ((HB.out.cell (World.block_lt_of_cell? w _ hw139_0)).trans hw139_0), ((HB.out.cell (World.block_lt_of_cell? w _ hw139_1)).trans hw139_1)⟩ (fun hHeld => ?_)
                                  clear hK K
                                  refine norm_ (a' := ?_) ?_ ?_
                                  rotate_left
                                  · show Act.put _ (some 95) _ = _
                                    simp only [Act.put, List.setIfInBounds_toArray, List.set_cons_zero, List.set_cons_succ, i64_w, i32_w]
                                    rfl
                                  refine pure_ (i := 17) (N := some 96) (v := ?_) (a' := ?_) #[true, true, true, true, true, true, true, true, true, true, true, true, true, true, true, true, true, true, false, false, false] rfl rfl (any_of HT_.out (by kernel_rfl)) (fun _ _ _ h => h) (Or.inl ⟨by rfl, ?_⟩) ?_ ?_
                                  rotate_left
                                  · intro w'
                                    go_simp
                                    with_reducible rfl
                                  rotate_left
                                  · simp only [Act.put, List.setIfInBounds_toArray, List.set_cons_zero, List.set_cons_succ, i64_w, i32_w]
                                    rfl
                                  refine pure_ (i := 18) (N := some 97) (v := ?_) (a' := ?_) #[true, true, true, true, true, true, true, true, true, true, true, true, true, true, true, true, true, true, true, false, false] rfl rfl (any_of HT_.out (by kernel_rfl)) (fun _ _ _ h => h) (Or.inl ⟨by rfl, ?_⟩) ?_ ?_
                                  rotate_left
                                  · intro w'
                                    go_simp
                                    with_reducible rfl
                                  rotate_left
                                  · simp only [Act.put, List.setIfInBounds_toArray, List.set_cons_zero, List.set_cons_succ, i64_w, i32_w]
                                    rfl
                                  refine pure_ (i := 19) (N := some 98) (v := ?_) (a' := ?_) #[true, true, true, true, true, true, true, true, true, true, true, true, true, true, true, true, true, true, true, true, false] rfl rfl (any_of HT_.out (by kernel_rfl)) (fun _ _ _ h => h) (Or.inl ⟨by rfl, ?_⟩) ?_ ?_
                                  rotate_left
                                  · intro w'
                                    go_simp
                                    with_reducible rfl
                                  rotate_left
                                  · simp only [Act.put, List.setIfInBounds_toArray, List.set_cons_zero, List.set_cons_succ, i64_w, i32_w]
                                    rfl
                                  refine last_ (i := 20) (N := none) #[true, true, true, true, true, true, true, true, true, true, true, true, true, true, true, true, true, true, true, true, true] rfl rfl (one_of HT_.out (by kernel_rfl)) (by decide) (fun K hK => ?_)
                                  refine skip_ (w1 := ?_) (by rfl) rfl ?_ ?_
                                  rotate_left
                                  · go_simp
                                    rfl
                                  refine hK.out _ _ ?_
                                  clear hK K
                                  refine done_ (done_of HT_.out (by kernel_rfl)) ?_
                                  try go_wp2
                                  go_roundg k2
                                  case measure => have := HK1.out; have := HK2.out; omega
                                  case rel => exact ⟨(y141), (wrap64 (x15_2 - 1)), (by first | rfl | (simp; done) | (simp [*]; done)), H', ⟨by have := HK1.out; have := HK2.out; omega⟩, ⟨by (with_reducible repeat (first | apply Kd.R_alloc | apply Kd.R_drewN | apply Kd.R_drew)); exact HQ51.out⟩, ⟨by (with_reducible repeat (first | refine blk_drewN ?_ _ | refine blk_drew ?_ | refine blk_alloc ?_ _)); refine blk_far ?_ (by have h_ := Kd.R_ne HO_10.out BK122.out (by decide); intro e_; exact h_ (by rw [e_]; rfl)) _; (with_reducible repeat (first | refine blk_drewN ?_ _ | refine blk_drew ?_ | refine blk_alloc ?_ _)); exact BK122.out⟩, ⟨by repeat (first | (with_reducible first | exact HB.out | apply below_alloc | apply pw_below_drewN | apply below_drew1 | refine below_set ?_ GB47.out | refine below_set ?_ GE122.out) | exact HB.out)⟩⟩
                                · rw [if_neg c44] at H
                                  exact absurd H (by simp)
                              · rw [if_neg c43] at H
                                exact absurd H (by simp)
                            · rw [if_neg c42] at H
                              exact absurd H (by simp)
                          · rw [if_neg c40] at H
                            exact absurd H (by simp)
                        · rw [if_neg c39] at H
                          exact absurd H (by simp)
                      · rw [if_neg c38] at H
                        have c38b0 : decide (0 < x15_2) = false := decide_eq_false c38
                        clear c38
                        have H' := Aside0.mk H
                        clear H
                        obtain ⟨Ao52, co52, eo52⟩ := Kd.R_slice HO_10.out
                        subst eo52
                        go_wp2
                        go_loopg [101] k2 (fun kq v101 w' => ∃ (x10_3 : List Int) (x101_3 : Int), v101 = .int .i64 x101_3 ∧ Aside0 (dynamics_Speeds.l2 kq x10_3 (x10_2.length : Int) x101_3 = some (r1, r2)) ∧ Aside0 (kq ≤ k2) ∧ Aside0 (Kd.R (Kd.int .i64) 3 w' w.heap.size (fun _ => True) (.slice Ao52 x10_2.length co52) x10_3) ∧ Aside0 (w'.heap[gb122]? = some (.cells #[.string a2_0, .int .i64 a2_1, .int .i64 a2_2, .int .i64 a2_3, .int .i64 a2_4] 26 (0, 0))) ∧ Aside0 (Below w.heap.size w w'))
                        case atStart => exact ⟨(x10_2), (0), (by first | rfl | (simp; done) | (simp [*]; done)), H', ⟨Nat.le_refl _⟩, ⟨by (with_reducible repeat (first | apply Kd.R_alloc | apply Kd.R_drewN | apply Kd.R_drew)); exact HO_10.out⟩, ⟨by (with_reducible repeat (first | refine blk_drewN ?_ _ | refine blk_drew ?_ | refine blk_alloc ?_ _)); exact BK122.out⟩, ⟨by repeat (first | (with_reducible first | exact HB.out | apply below_alloc | apply pw_below_drewN | apply below_drew1 | refine below_set ?_ GE122.out) | exact HB.out)⟩⟩
                        case round =>
                          clear H'
                          try clear c1
                          try clear p1
                          try clear q1
                          try clear hx1
                          try clear c2
                          try clear p2
                          try clear c3
                          try clear p3
                          try clear q3
                          try clear hx3
                          try clear hf3
                          try clear c4
                          try clear p4
                          try clear q4
                          try clear hx4
                          try clear hf4
                          try clear c5
                          try clear c5b0
                          try clear c5b1
                          try clear c6
                          try clear c6b0
                          try clear c6b1
                          try clear p6
                          try clear c7
                          try clear c7b0
                          try clear c7b1
                          try clear c9
                          try clear c9b0
                          try clear c9b1
                          try clear c10
                          try clear c10b0
                          try clear c10b1
                          try clear p13
                          try clear q13
                          try clear hx13
                          try clear c15
                          try clear q15
                          try clear c17
                          try clear c20
                          try clear c20b0
                          try clear c24
                          try clear c24b0
                          try clear c25
                          try clear c25b0
                          try clear c26
                          try clear c26b0
                          try clear c27
                          try clear c28
                          try clear c29
                          try clear c29b0
                          try clear c30
                          try clear c30b0
                          try clear p31
                          try clear q31
                          try clear hx31
                          try clear hf31
                          try clear c38
                          try clear c38b0
                          try clear c39
                          try clear c39b0
                          try clear c40
                          try clear c40b0
                          try clear c42
                          try clear c42b0
                          try clear c43
                          try clear c43b0
                          try clear c44
                          try clear c44b0
                          try clear p47
                          try clear q47
                          try clear hx47
                          try clear hf47
                          try clear hcz13_0
                          try clear hcz13_1
                          try clear hcz13_2
                          try clear hcz13_3
                          try clear hcz13_4
                          try clear hcz18_0
                          try clear hcz18_1
                          try clear hcz18_2
                          try clear hcz18_3
                          try clear hcz18_4
                          try clear hcz32_0
                          try clear hcz32_1
                          try clear hcz32_2
                          try clear hcz32_3
                          try clear hcz32_4
                          try clear hfz13_0
                          try clear hfz13_1
                          try clear hfz13_2
                          try clear hfz13_3
                          try clear hfz13_4
                          try clear hfz18_0
                          try clear hfz18_1
                          try clear hfz18_2
                          try clear hfz18_3
                          try clear hfz18_4
                          try clear hfz32_0
                          try clear hfz32_1
                          try clear hfz32_2
                          try clear hfz32_3
                          try clear hfz32_4
                          try clear hx133_0
                          try clear hx134_0
                          try clear hx134_1
                          try clear hx137_0
                          try clear hx138_0
                          try clear hx139_0
                          try clear hx139_1
                          try clear hx31_0
                          try clear hx47_0
                          try clear p1
                          try clear p13
                          try clear p133
                          try clear p134
                          try clear p137
                          try clear p138
                          try clear p139
                          try clear p2
                          try clear p3
                          try clear p31
                          try clear p47
                          try clear p6
                          try clear q015
                          try clear q1
                          try clear q13
                          try clear q133
                          try clear q134
                          try clear q137
                          try clear q138
                          try clear q139
                          try clear q15
                          try clear q3
                          try clear q31
                          try clear q47
                          obtain ⟨x10_3, x101_3, rfl, HA, HK3, HO_10, BK122, HB⟩ := hrel
                          have hl10_3 := (Kd.R_reads' HO_10.out).1
                          rw [hl10_3] at HO_10
                          (try simp only [hl10_3])
                          (try simp only [hl10_3] at BK122)
                          cases gk with
                          | zero => exact absurd HA.out (by simp [dynamics_Speeds.l2])
                          | succ k3 =>
                            have H := HA.out
                            clear HA
                            simp only [dynamics_Speeds.l2] at H
                            by_cases c53 : x101_3 < (x10_2.length : Int)
                            · rw [if_pos c53] at H
                              have c53b0 : decide (x101_3 < (x10_2.length : Int)) = true := decide_eq_true c53
                              clear c53
                              by_cases c54 : 0 ≤ x101_3
                              · rw [if_pos c54] at H
                                have c54b0 : decide (0 ≤ x101_3) = true := decide_eq_true c54
                                clear c54
                                by_cases c55 : x101_3 < (x10_3.length : Int)
                                · rw [if_pos c55] at H
                                  have c55b0 : decide (x101_3 < (x10_3.length : Int)) = true := decide_eq_true c55
                                  clear c55
                                  replace H := Option.bind_eq_some_iff.mp H
                                  obtain ⟨t143, A560, H⟩ := H
                                  replace H : (dynamics_Speeds.l2 k3 (x10_3.set (x101_3 : Int).toNat t143) (x10_2.length : Int) (wrap64 (x101_3 + 1))) = some (r1, r2) := H
                                  have A56 := Aside0.mk A560
                                  clear A560
                                  obtain ⟨y144, hy144⟩ : ∃ y_ : List Int, y_ = (x10_3.set (x101_3 : Int).toNat t143) := ⟨_, rfl⟩
                                  replace H : (dynamics_Speeds.l2 k3 y144 (x10_2.length : Int) (wrap64 (x101_3 + 1))) = some (r1, r2) := by first | (rw [hy144]; with_reducible exact H) | (have H2_ := (Option.bind_some _ _).symm.trans H; rw [hy144]; with_reducible exact H2_) | (have H2_ := (Option.bind_some _ _).symm.trans H; with_reducible exact H2_) | with_reducible exact H | (rw [hy144]; exact H) | exact H
                                  have Ny144 := Aside0.mk hy144
                                  clear hy144
                                  have H' := Aside0.mk H
                                  clear H
                                  have p142 : 0 ≤ (x101_3 : Int) := of_decide_eq_true (by first | (with_reducible assumption) | assumption)
                                  have q142 : x101_3 < (x10_3.length : Int) := of_decide_eq_true (by first | (with_reducible assumption) | assumption)
                                  obtain ⟨ad142, e142, hx142_0⟩ := Kd.at_int (Kd.R_reads' HO_10.out).2.2 x101_3 p142 q142
                                  cases e142
                                  replace p142 := eq_true p142
                                  replace q142 := eq_true q142
                                  go_wp2_with (first | ((with_reducible refine gate_callee (f := 30) rfl ?_); refine goesL_ (some 109) rfl rfl Try.func30 (by kernel_rfl) rfl #[.int .i64 (rd x10_3 x101_3)] rfl (by (try simp only [List.map_toArray, List.map_cons, List.map_nil]); first | done | rfl | (simp only [List.length_drop, List.length_take]; rfl)) ?_; (with_reducible refine (arith_Sqrt.calls k3 (rd x10_3 x101_3) t143 _ A56.out).mono ?_); rintro e w' ⟨rfl, ⟨nd, rfl⟩⟩; refine ⟨_, rfl, ?_⟩; (try (rw [drewN_self wr]; generalize hq_ : World.drewN wr _ = wr; have n0_ : Aside0 (Kd.R (Kd.int .i64) 3 wr w.heap.size (fun _ => True) (.slice (some ad142) x10_3.length co52) x10_3) := ⟨by rw [← hq_]; exact (by (with_reducible repeat (first | apply Kd.R_alloc | apply Kd.R_drewN | apply Kd.R_drew)); exact HO_10.out)⟩; have n1_ : Aside0 (wr.heap[gb122]? = some (.cells #[.string a2_0, .int .i64 a2_1, .int .i64 a2_2, .int .i64 a2_3, .int .i64 a2_4] 26 (0, 0))) := ⟨by rw [← hq_]; exact (by (with_reducible repeat (first | refine blk_drewN ?_ _ | refine blk_drew ?_ | refine blk_alloc ?_ _)); exact BK122.out)⟩; have n2_ : Aside0 (Below w.heap.size w wr) := ⟨by rw [← hq_]; exact (by repeat (first | (with_reducible first | exact HB.out | apply below_alloc | apply pw_below_drewN | apply below_drew1 | refine below_set ?_ GE122.out) | exact HB.out))⟩; clear HO_10 BK122 HB hq_; have HO_10 := n0_; have BK122 := n1_; have HB := n2_; clear n0_ n1_ n2_)); have p57 : 0 ≤ (x101_3 : Int) := of_decide_eq_true (by first | (with_reducible assumption) | assumption); have q57 : (x101_3 : Int) < ((x10_3.length : Int) : Int) := of_decide_eq_true (by first | (with_reducible assumption) | assumption); obtain ⟨go57, co57, eo57, gb57, gl57, cl57, HG57⟩ := Kd.R_form HO_10.out (by omega); (first | cases eo57 | (injection eo57 with ea_ en_ ec_; (first | subst ea_ | (injection ea_ with ea_; subst ea_)); subst ec_; clear en_)); have GB57 := Aside0.mk gb57; have GG57 := Aside0.mk HG57; clear gb57 gl57 HG57; (first | simp only [add_plain] at hx142_0 | skip); obtain ⟨hx57_0, hf57_0⟩ := Kd.R_celln 0 HO_10.out (x101_3 : Int) p57 q57; replace p57 := eq_true p57; replace q57 := eq_true q57; obtain ⟨hy58_, hz58_⟩ := Kd.R_celln 0 HO_10.out (x101_3 : Int) (of_decide_eq_true (by first | (with_reducible assumption) | assumption)) (of_decide_eq_true (by first | (with_reducible assumption) | assumption)); have HP58 := Kd.R_putg HO_10.out (x101_3 : Int) t143) | ((with_reducible refine gate_store (t := 3) (p := 110) rfl ?_); refine store_event (t := 3) (p := 110) (v := ?vo_w59) (w1 := (wr.setCell ⟨go57, (x101_3 : Int).toNat, none⟩ (.int .i64 t143))) ?hg ?ho ?hn ?hr ?_; (case ho => rfl); (case hg => rfl); (case hn => rfl); (case hr => first | (go_simp; done) | (go_simp; rfl)); intro w59 hw; have hg : wr.grownBy w59 (some go57) := (by rw [hw]; exact HP58.2); have hp_ : Kd.R (Kd.int .i64) 3 w59 w.heap.size (fun _ => True) (.slice (some ⟨go57, 0, none⟩) x10_3.length co52) y144 := (by rw [hw, Ny144.out]; exact HP58.1); clear HP58; have n0_ := Aside0.mk (hp_); have n1_ := Aside0.mk (blk_grown (g := gb122) (o := .cells #[.string a2_0, .int .i64 a2_1, .int .i64 a2_2, .int .i64 a2_3, .int .i64 a2_4] 26 (0, 0)) (by (with_reducible repeat (first | refine blk_drewN ?_ _ | refine blk_drew ?_ | refine blk_alloc ?_ _)); exact BK122.out) hg (Kd.R_ne HO_10.out BK122.out (by decide))); have n2_ := Aside0.mk ((by rw [hw]; exact below_set (HB.out) GB57.out : Below w.heap.size w w59)); clear HO_10; clear BK122; clear HB; have HO_10 := n0_; have BK122 := n1_; have HB := n2_; clear n0_ n1_ n2_; clear hg hw hp_))
                                  (try simp only [← hl10_3])
                                  go_roundg k3
                                  case measure => have := HK1.out; have := HK2.out; have := HK3.out; omega
                                  case rel => exact ⟨(y144), (wrap64 (x101_3 + 1)), (by first | rfl | (simp; done) | (simp [*]; done)), H', ⟨by have := HK1.out; have := HK2.out; have := HK3.out; omega⟩, ⟨by (try simp only [hl10_3]); (with_reducible repeat (first | apply Kd.R_alloc | apply Kd.R_drewN | apply Kd.R_drew)); exact HO_10.out⟩, ⟨by (try simp only [hl10_3]); (with_reducible repeat (first | refine blk_drewN ?_ _ | refine blk_drew ?_ | refine blk_alloc ?_ _)); exact BK122.out⟩, ⟨by repeat (first | (with_reducible first | exact HB.out | apply below_alloc | apply pw_below_drewN | apply below_drew1 | refine below_set ?_ GE122.out) | exact HB.out)⟩⟩
                                · rw [if_neg c55] at H
                                  exact absurd H (by simp)
                              · rw [if_neg c54] at H
                                exact absurd H (by simp)
                            · rw [if_neg c53] at H
                              have c53b0 : decide (x101_3 < (x10_2.length : Int)) = false := decide_eq_false c53
                              have c53b9 : decide (x101_3 < (x10_3.length : Int)) = false := by rw [← hl10_3]; exact c53b0
                              clear c53
                              simp only [Option.some.injEq, Prod.mk.injEq] at H
                              obtain ⟨rfl, rfl⟩ := H
                              go_wp2
                              go_ret2
                              exact ⟨_, by first | rfl | (simp [errW_none, errW_some] <;> rfl) | (simp only [← hji8]; first | rfl | (simp [errW_none, errW_some] <;> rfl)) | (simp [*, errW_none, errW_some] <;> rfl), by (with_reducible repeat (first | apply Kd.R_alloc | apply Kd.R_drewN | apply Kd.R_drew)); exact HO_10.out, by repeat (first | (with_reducible first | exact HB.out | apply below_alloc | apply pw_below_drewN | apply below_drew1 | refine below_set ?_ GE122.out) | exact HB.out)⟩
          · rw [if_neg c10] at H
            exact absurd H (by simp)
        · rw [if_neg c9] at H
          exact absurd H (by simp)
      · rw [if_neg c7] at H
        exact absurd H (by simp)
    · rw [if_neg c6] at H
      exact absurd H (by simp)
  · rw [if_neg c5] at H
    have c5b0 : (t123 == 0) = false := beq_eq_false_iff_ne.mpr c5
    have c5b1 : (t123 != 0) = true := bne_iff_ne.mpr c5
    simp only [Option.some.injEq, Prod.mk.injEq] at H
    obtain ⟨rfl, rfl⟩ := H
    go_enter Try.func17, Try.ntmps17
    go_wp2_with (first | ((with_reducible refine gate_dst (N := 5) rfl ?_); refine box_event ?hg (N := 5) ?hd (cs := #[.string a2_0, .int .i64 a2_1, .int .i64 a2_2, .int .i64 a2_3, .int .i64 a2_4]) (t := 26) ?hr ?_; (case hd => rfl); (case hg => rfl); (case hr => first | (go_simp; done) | (go_simp; rfl)); intro gb122 hg w60 hbox hb; have n0_ := Aside0.mk (below_step (by repeat (first | (with_reducible first | exact HB.out | apply below_alloc | apply pw_below_drewN | apply below_drew1) | exact HB.out)) hb); have n1_ := Aside0.mk (hbox); have n2_ := Aside0.mk ((by rw [hg]; exact (below_size (by repeat (first | (with_reducible first | exact HB.out | apply below_alloc | apply pw_below_drewN | apply below_drew1) | exact HB.out))) : w.heap.size ≤ gb122)); have n3_ := Aside0.mk ((by rw [hg]; exact (below_size (by repeat (first | (with_reducible first | exact HB.out | apply below_alloc | apply pw_below_drewN | apply below_drew1) | exact HB.out))) : w.heap.size ≤ gb122)); clear HB; have HB := n0_; have BK122 := n1_; have GW122 := n2_; have GE122 := n3_; clear n0_ n1_ n2_ n3_; clear hb hbox hg; have hcz61_0 : w60.cell? ⟨gb122, 0, none⟩ = some (.string a2_0) := (blk_cell BK122.out 0).trans rfl; have hcz61_1 : w60.cell? ⟨gb122, 1, none⟩ = some (.int .i64 a2_1) := (blk_cell BK122.out 1).trans rfl; have hcz61_2 : w60.cell? ⟨gb122, 2, none⟩ = some (.int .i64 a2_2) := (blk_cell BK122.out 2).trans rfl; have hcz61_3 : w60.cell? ⟨gb122, 3, none⟩ = some (.int .i64 a2_3) := (blk_cell BK122.out 3).trans rfl; have hcz61_4 : w60.cell? ⟨gb122, 4, none⟩ = some (.int .i64 a2_4) := (blk_cell BK122.out 4).trans rfl; have hfz61_0 := blk_frozen BK122.out 0; have hfz61_1 := blk_frozen BK122.out 1; have hfz61_2 := blk_frozen BK122.out 2; have hfz61_3 := blk_frozen BK122.out 3; have hfz61_4 := blk_frozen BK122.out 4) | ((with_reducible refine gate_callee (f := 26) rfl ?_); refine goesL_ (some 21) rfl rfl Try.func26 (by kernel_rfl) rfl #[.slice A0 l0.length c0, .int .i64 a1, .agg #[.string a2_0, .int .i64 a2_1, .int .i64 a2_2, .int .i64 a2_3, .int .i64 a2_4]] rfl (by (try simp only [List.map_toArray, List.map_cons, List.map_nil]); first | done | rfl | (simp only [List.length_drop, List.length_take]; rfl)) ?_; (with_reducible refine (dynamics_check.calls k _ _ l0 a1 a2_0 a2_1 a2_2 a2_3 a2_4 t123 _ ?side1 ?side2 A4.out).mono ?_); (case side1 => repeat (first | exact (Kd.C_below HR0.out HB.out) | (with_reducible refine Kd.C_alloc ?_ _) | (with_reducible refine Kd.C_drewN ?_ _) | (with_reducible refine Kd.C_drew ?_))); (case side2 => exact HC0.out); rintro e w62 ⟨rfl, hb⟩; refine ⟨_, rfl, ?_⟩; have n0_ := Aside0.mk (blk_below (g := gb122) (o := .cells #[.string a2_0, .int .i64 a2_1, .int .i64 a2_2, .int .i64 a2_3, .int .i64 a2_4] 26 (0, 0)) (by (with_reducible repeat (first | refine blk_drewN ?_ _ | refine blk_drew ?_ | refine blk_alloc ?_ _)); exact BK122.out) hb); have n1_ := Aside0.mk (below_step (by repeat (first | (with_reducible first | exact HB.out | apply below_alloc | apply pw_below_drewN | apply below_drew1 | refine below_set ?_ GE122.out) | exact HB.out)) hb); clear BK122; clear HB; have BK122 := n0_; have HB := n1_; clear n0_ n1_; (try clear hb); (try clear hb2); (try clear hk); (try clear hi)))
    go_ret2
    exact ⟨_, by first | rfl | (simp [errW_none, errW_some] <;> rfl) | (simp [*, errW_none, errW_some] <;> rfl), by first | exact Kd.R_nil _ _ _ _ _ | exact Kd.N_nil _ _ _ _ _ | exact Kd.V_nil _ _ _ _ _ | exact Kd.Q_nil _ _ _ _ _ | exact Kd.S_nil _ _ _ _ _, by repeat (first | (with_reducible first | exact HB.out | apply below_alloc | apply pw_below_drewN | apply below_drew1 | refine below_set ?_ GE122.out) | exact HB.out)⟩

end Go.Proofs.Ytfnpoalffpnllaa.XDynamicsReference
