-- This session's own text, written by wip/tools/xall.py after the form of the kit's print.
import Derived.Test.YtnmhdeibjglhcaaXAllx0
import Derived.Test.YtnmhdeibjglhcaaXAllx1
namespace Go.Proofs.Ytnmhdeibjglhcaa.XAll
open Go.RowKit Go.Proofs.YtnmhdeibjglhcaaW.PrintWords Go.Proofs.YtnmhdeibjglhcaaW.PrintLast Go.Proofs.YtnmhdeibjglhcaaW.PrintMore
attribute [local go_sem] max2_int min2_int max_two min_two max_three min_three max_four min_four   -- for this text's walks alone
set_option linter.unusedVariables false
set_option linter.unusedSimpArgs false

/-! ### maxplus_Check: function 30 -/
def maxplus_Check.l0 : Nat → List (List Int) → List (List Int) → Int → Int → Option (Bool)
 | 0, _, _, _, _ => none
 | k + 1, x0, x5, x6, x7 => if x7 < x6 then (if 0 ≤ x7 then (if x7 < (x5.length : Int) then ((maxplus_Vector.f k (x0.length : Int) (rd_L1 x5 x7)).bind fun t122 => (if t122 = true then (maxplus_Check.l0 k x0 x5 x6 (wrap64 (x7 + 1))) else (some false))) else (none)) else (none)) else (if (x0.length : Int) ≥ 1 then (some (decide ((x0.length : Int) ≤ 12))) else (some false))
def maxplus_Check.f (k : Nat) (l0 : List (List Int)) : Option (Bool) := maxplus_Check.l0 k l0 l0 (l0.length : Int) 0
theorem maxplus_Check.mono_l : ∀ k, (∀ y0 y1 y2 y3, LeO (maxplus_Check.l0 k y0 y1 y2 y3) (maxplus_Check.l0 (k + 1) y0 y1 y2 y3))
 | 0 => fun _ _ _ _ r h => by simp [maxplus_Check.l0] at h
 | k + 1 => by
  have ih0 := maxplus_Check.mono_l k
  ·intro y0 y1 y2 y3
   unfold maxplus_Check.l0
   repeat' first
   | (with_reducible exact ih0 _ _ _ _)
   | (with_reducible exact maxplus_Vector.mono _ _ _)
   | (with_reducible exact LeO.refl _)
   | (with_reducible exact LeO.none _)
   | (with_reducible refine LeO.ite ?_ ?_)
   | (with_reducible refine LeO.bind ?_ (fun _ => ?_))
   | exact ih0 _ _ _ _
   | exact maxplus_Vector.mono _ _ _
   | exact LeO.none _
   | refine LeO.ite ?_ ?_
   | refine LeO.bind ?_ (fun _ => ?_)
theorem maxplus_Check.mono : ∀ a0 k, LeO (maxplus_Check.f k a0) (maxplus_Check.f (k + 1) a0) := by
 intro a0 k
 have ih0 := maxplus_Check.mono_l k
 unfold maxplus_Check.f
 repeat' first
   | (with_reducible exact ih0 _ _ _ _)
   | (with_reducible exact maxplus_Vector.mono _ _ _)
   | (with_reducible exact LeO.refl _)
   | (with_reducible exact LeO.none _)
   | (with_reducible refine LeO.ite ?_ ?_)
   | (with_reducible refine LeO.bind ?_ (fun _ => ?_))
   | exact ih0 _ _ _ _
   | exact maxplus_Vector.mono _ _ _
   | exact LeO.none _
   | refine LeO.ite ?_ ?_
   | refine LeO.bind ?_ (fun _ => ?_)
set_option maxHeartbeats 8000000 in
set_option maxRecDepth 100000 in
theorem maxplus_Check.calls (k : Nat) (A0 : Option Addr) (c0 : Nat) (l0 : List (List Int)) (r : Bool) (w : World) (hr0 : Kd.C (Kd.slice 3 (Kd.int .i64)) w A0 l0.length l0) (hc0 : l0.length ≤ c0) (h : maxplus_Check.f k l0 = some r) :
  Calls Try.prog 30 #[.slice A0 l0.length c0] w fun e w' => e = .returned (.bool r) ∧ Drawn0 w w' := by
 have HR0 := Aside0.mk hr0
 have HC0 := Aside0.mk hc0
 clear hr0 hc0
 have H : (maxplus_Check.l0 k l0 l0 (l0.length : Int) 0) = some r := h
 clear h
 have H' := Aside0.mk H
 clear H
 go_enter Try.func30, Try.ntmps30
 go_wp2
 go_loopg [7] k (fun kq v7 w' => ∃ (x7_1 : Int), v7 = .int .i64 x7_1 ∧ Aside0 (maxplus_Check.l0 kq l0 l0 (l0.length : Int) x7_1 = some r) ∧ Aside0 (kq ≤ k) ∧ Drawn0 w w')
 case atStart => exact ⟨(0), (by first | rfl | (simp; done) | (simp [*]; done)), H', ⟨Nat.le_refl _⟩, by repeat (first | exact Drawn0.refl _ | apply Drawn0.step)⟩
 case round =>
  clear H'
  obtain ⟨x7_1, rfl, HA, HK1, ⟨m1, rfl⟩⟩ := hrel
  cases gk with
  | zero => exact absurd HA.out (by simp [maxplus_Check.l0])
  | succ k1 =>
   have H := HA.out
   clear HA
   simp only [maxplus_Check.l0] at H
   by_cases c2 : x7_1 < (l0.length : Int)
   ·rw [if_pos c2] at H
    have c2b0 : decide (x7_1 < (l0.length : Int)) = true := decide_eq_true c2
    clear c2
    by_cases c3 : 0 ≤ x7_1
    ·rw [if_pos c3] at H
     have c3b0 : decide (0 ≤ x7_1) = true := decide_eq_true c3
     clear c3
     by_cases c4 : x7_1 < (l0.length : Int)
     ·rw [if_pos c4] at H
      have c4b0 : decide (x7_1 < (l0.length : Int)) = true := decide_eq_true c4
      clear c4
      replace H := Option.bind_eq_some_iff.mp H
      obtain ⟨t122, A50, H⟩ := H
      replace H : (if t122 = true then (maxplus_Check.l0 k1 l0 l0 (l0.length : Int) (wrap64 (x7_1 + 1))) else (some false)) = some r := H
      have A5 := Aside0.mk A50
      clear A50
      by_cases c6 : t122 = true
      ·subst c6
       have H1 : (maxplus_Check.l0 k1 l0 l0 (l0.length : Int) (wrap64 (x7_1 + 1))) = some r := by rw [if_pos rfl] at H; exact H
       clear H
       have H := H1
       clear H1
       have H' := Aside0.mk H
       clear H
       have p121 : 0 ≤ (x7_1 : Int) := of_decide_eq_true (by first | (with_reducible assumption) | assumption)
       have q121 : x7_1 < (l0.length : Int) := of_decide_eq_true (by first | (with_reducible assumption) | assumption)
       obtain ⟨ad121, A121_0, c121_0, e121, hx121_0, hl121_0, hi121_0⟩ := at_L1 HR0.out x7_1 p121 q121
       cases e121
       have HR121_0 := Aside0.mk hi121_0
       have HC121_0 := Aside0.mk hl121_0
       clear hi121_0 hl121_0
       replace p121 := eq_true p121
       replace q121 := eq_true q121
       go_wp2_with (first | ((with_reducible refine gate_callee (f := 32) rfl ?_); refine goesL_ (some 14) rfl rfl Try.func32 (by kernel_rfl) rfl #[.int .i64 (l0.length : Int), .slice A121_0 (rd_L1 l0 x7_1).length c121_0] rfl (by (try simp only [List.map_toArray, List.map_cons, List.map_nil]); first | done | rfl | (simp only [List.length_drop, List.length_take]; rfl)) ?_; (with_reducible refine (maxplus_Vector.calls k1 (l0.length : Int) _ _ (rd_L1 l0 x7_1) true _ ?side1 ?side2 A5.out).mono ?_); (case side1 => repeat (first | exact HR121_0.out | (with_reducible refine Kd.C_alloc ?_ _) | (with_reducible refine Kd.C_drewN ?_ _) | (with_reducible refine Kd.C_drew ?_))); (case side2 => exact HC121_0.out); rintro e w' ⟨rfl, ⟨nd, rfl⟩⟩; refine ⟨_, rfl, ?_⟩))
       go_roundg k1
       case measure => have := HK1.out; omega
       case rel => exact ⟨(wrap64 (x7_1 + 1)), (by first | rfl | (simp; done) | (simp [*]; done)), H', ⟨by have := HK1.out; omega⟩, by repeat (first | exact Drawn0.refl _ | apply Drawn0.step)⟩
      ·replace c6 := Bool.eq_false_iff.mpr c6
       subst c6
       have H1 : (some false) = some r := by rw [if_neg (show ¬ (false = true) by decide)] at H; exact H
       clear H
       have H := H1
       clear H1
       obtain rfl := Option.some.inj H
       have p121 : 0 ≤ (x7_1 : Int) := of_decide_eq_true (by first | (with_reducible assumption) | assumption)
       have q121 : x7_1 < (l0.length : Int) := of_decide_eq_true (by first | (with_reducible assumption) | assumption)
       obtain ⟨ad121, A121_0, c121_0, e121, hx121_0, hl121_0, hi121_0⟩ := at_L1 HR0.out x7_1 p121 q121
       cases e121
       have HR121_0 := Aside0.mk hi121_0
       have HC121_0 := Aside0.mk hl121_0
       clear hi121_0 hl121_0
       replace p121 := eq_true p121
       replace q121 := eq_true q121
       go_wp2_with (first | ((with_reducible refine gate_callee (f := 32) rfl ?_); refine goesL_ (some 14) rfl rfl Try.func32 (by kernel_rfl) rfl #[.int .i64 (l0.length : Int), .slice A121_0 (rd_L1 l0 x7_1).length c121_0] rfl (by (try simp only [List.map_toArray, List.map_cons, List.map_nil]); first | done | rfl | (simp only [List.length_drop, List.length_take]; rfl)) ?_; (with_reducible refine (maxplus_Vector.calls k1 (l0.length : Int) _ _ (rd_L1 l0 x7_1) false _ ?side1 ?side2 A5.out).mono ?_); (case side1 => repeat (first | exact HR121_0.out | (with_reducible refine Kd.C_alloc ?_ _) | (with_reducible refine Kd.C_drewN ?_ _) | (with_reducible refine Kd.C_drew ?_))); (case side2 => exact HC121_0.out); rintro e w' ⟨rfl, ⟨nd, rfl⟩⟩; refine ⟨_, rfl, ?_⟩))
       go_ret
       exact ⟨by first | rfl | (simp; done) | (simp [*]; done), by repeat (first | exact Drawn0.refl _ | apply Drawn0.step)⟩
     ·rw [if_neg c4] at H
      exact absurd H (by simp)
    ·rw [if_neg c3] at H
     exact absurd H (by simp)
   ·rw [if_neg c2] at H
    have c2b0 : decide (x7_1 < (l0.length : Int)) = false := decide_eq_false c2
    clear c2
    by_cases c7 : (l0.length : Int) ≥ 1
    ·rw [if_pos c7] at H
     have c7b0 : decide (1 ≤ (l0.length : Int)) = true := decide_eq_true c7
     have c7b1 : decide (1 ≤ l0.length) = true := decide_eq_true (by omega)
     clear c7
     obtain rfl := Option.some.inj H
     go_wp2
     go_ret
     exact ⟨by first | rfl | (simp; done) | (simp [*]; done), by repeat (first | exact Drawn0.refl _ | apply Drawn0.step)⟩
    ·rw [if_neg c7] at H
     have c7b0 : decide (1 ≤ (l0.length : Int)) = false := decide_eq_false c7
     have c7b1 : decide (1 ≤ l0.length) = false := decide_eq_false (by omega)
     clear c7
     obtain rfl := Option.some.inj H
     go_wp2
     go_ret
     exact ⟨by first | rfl | (simp; done) | (simp [*]; done), by repeat (first | exact Drawn0.refl _ | apply Drawn0.step)⟩

/-! ### maxplus_matrix: function 41 -/
mutual
def maxplus_matrix.l0 : Nat → Int → List (List Int) → Int → Int → Option ((List (List Int)))
 | 0, _, _, _, _ => none
 | k + 1, x1, x5, x11, x12 => if x12 < x11 then (if 0 ≤ x1 then (if (x1 : Int).toNat ≤ 35184372088832 then (if 0 ≤ x12 then (if x12 < (x5.length : Int) then ((some (x5.set (x12 : Int).toNat (List.replicate (x1 : Int).toNat 0) : List (List Int))).bind fun y129 => (maxplus_matrix.l1 k x1 y129 x12 x11 x12 ((rd_L1 y129 x12).length : Int) 0)) else (none)) else (none)) else (none)) else (none)) else (some x5)
def maxplus_matrix.l1 : Nat → Int → List (List Int) → Int → Int → Int → Int → Int → Option ((List (List Int)))
 | 0, _, _, _, _, _, _, _ => none
 | k + 1, x1, x5, x6, x11, x12, x24, x25 => if x25 < x24 then (if 0 ≤ x6 then (if x6 < (x5.length : Int) then (if 0 ≤ x25 then (if x25 < ((rd_L1 x5 x6).length : Int) then (maxplus_matrix.l1 k x1 (x5.set (x6 : Int).toNat ((rd_L1 x5 x6).set (x25 : Int).toNat (-1125899906842624))) x6 x11 x12 x24 (wrap64 (x25 + 1))) else (none)) else (none)) else (none)) else (none)) else (maxplus_matrix.l0 k x1 x5 x11 (wrap64 (x12 + 1)))
end
def maxplus_matrix.f (k : Nat) (a0 : Int) (a1 : Int) : Option ((List (List Int))) := if 0 ≤ a0 then (if (a0 : Int).toNat ≤ 11728124029610 then ((some (List.replicate (a0 : Int).toNat [] : List (List Int))).bind fun y123 => (maxplus_matrix.l0 k a1 y123 (y123.length : Int) 0)) else (none)) else (none)
theorem maxplus_matrix.mono_l : ∀ k, (∀ y0 y1 y2 y3, LeO (maxplus_matrix.l0 k y0 y1 y2 y3) (maxplus_matrix.l0 (k + 1) y0 y1 y2 y3)) ∧ (∀ y0 y1 y2 y3 y4 y5 y6, LeO (maxplus_matrix.l1 k y0 y1 y2 y3 y4 y5 y6) (maxplus_matrix.l1 (k + 1) y0 y1 y2 y3 y4 y5 y6))
 | 0 => ⟨fun _ _ _ _ r h => by simp [maxplus_matrix.l0] at h, fun _ _ _ _ _ _ _ r h => by simp [maxplus_matrix.l1] at h⟩
 | k + 1 => by
  obtain ⟨ih0, ih1⟩ := maxplus_matrix.mono_l k
  refine ⟨?_, ?_⟩
  ·intro y0 y1 y2 y3
   unfold maxplus_matrix.l0
   repeat' first
   | (with_reducible exact ih0 _ _ _ _)
   | (with_reducible exact ih1 _ _ _ _ _ _ _)
   | (with_reducible exact LeO.refl _)
   | (with_reducible exact LeO.none _)
   | (with_reducible refine LeO.ite ?_ ?_)
   | (with_reducible refine LeO.bind ?_ (fun _ => ?_))
   | exact ih0 _ _ _ _
   | exact ih1 _ _ _ _ _ _ _
   | exact LeO.none _
   | refine LeO.ite ?_ ?_
   | refine LeO.bind ?_ (fun _ => ?_)
  ·intro y0 y1 y2 y3 y4 y5 y6
   unfold maxplus_matrix.l1
   repeat' first
   | (with_reducible exact ih0 _ _ _ _)
   | (with_reducible exact ih1 _ _ _ _ _ _ _)
   | (with_reducible exact LeO.refl _)
   | (with_reducible exact LeO.none _)
   | (with_reducible refine LeO.ite ?_ ?_)
   | (with_reducible refine LeO.bind ?_ (fun _ => ?_))
   | exact ih0 _ _ _ _
   | exact ih1 _ _ _ _ _ _ _
   | exact LeO.none _
   | refine LeO.ite ?_ ?_
   | refine LeO.bind ?_ (fun _ => ?_)
theorem maxplus_matrix.mono : ∀ a0 a1 k, LeO (maxplus_matrix.f k a0 a1) (maxplus_matrix.f (k + 1) a0 a1) := by
 intro a0 a1 k
 obtain ⟨ih0, ih1⟩ := maxplus_matrix.mono_l k
 unfold maxplus_matrix.f
 repeat' first
   | (with_reducible exact ih0 _ _ _ _)
   | (with_reducible exact ih1 _ _ _ _ _ _ _)
   | (with_reducible exact LeO.refl _)
   | (with_reducible exact LeO.none _)
   | (with_reducible refine LeO.ite ?_ ?_)
   | (with_reducible refine LeO.bind ?_ (fun _ => ?_))
   | exact ih0 _ _ _ _
   | exact ih1 _ _ _ _ _ _ _
   | exact LeO.none _
   | refine LeO.ite ?_ ?_
   | refine LeO.bind ?_ (fun _ => ?_)
set_option maxHeartbeats 8000000 in
set_option maxRecDepth 100000 in
theorem maxplus_matrix.calls (k : Nat) (a0 : Int) (a1 : Int) (r : List (List Int)) (w : World) (h : maxplus_matrix.f k a0 a1 = some r) :
  Calls Try.prog 41 #[.int .i64 a0, .int .i64 a1] w fun e w' => ∃ v0_ : Value, e = .returned (v0_) ∧ Kd.S (Kd.slice 3 (Kd.int .i64)) 22 w' w.heap.size (fun _ => True) v0_ r ∧ Below w.heap.size w w' := by
 have HB := Aside0.mk (Below.refl w.heap.size w)
 have H : (if 0 ≤ a0 then (if (a0 : Int).toNat ≤ 11728124029610 then ((some (List.replicate (a0 : Int).toNat [] : List (List Int))).bind fun y123 => (maxplus_matrix.l0 k a1 y123 (y123.length : Int) 0)) else (none)) else (none)) = some r := h
 clear h
 by_cases c3 : 0 ≤ a0
 ·rw [if_pos c3] at H
  have c3b0 := eq_true c3
  have c3b1 : decide (0 ≤ a0) = true := decide_eq_true c3
  clear c3
  by_cases c4 : (a0 : Int).toNat ≤ 11728124029610
  ·rw [if_pos c4] at H
   have c4b0 := eq_true c4
   have c4b1 : decide ((a0 : Int).toNat ≤ 11728124029610) = true := decide_eq_true c4
   clear c4
   obtain ⟨y123, hy123⟩ : ∃ y_ : List (List Int), y_ = (List.replicate (a0 : Int).toNat []) := ⟨_, rfl⟩
   replace H : (maxplus_matrix.l0 k a1 y123 (y123.length : Int) 0) = some r := by first | (rw [hy123]; with_reducible exact H) | (have H2_ := (Option.bind_some _ _).symm.trans H; rw [hy123]; with_reducible exact H2_) | (have H2_ := (Option.bind_some _ _).symm.trans H; with_reducible exact H2_) | with_reducible exact H | (rw [hy123]; exact H) | exact H
   have Ny123 := Aside0.mk hy123
   clear hy123
   have H' := Aside0.mk H
   clear H
   go_enter Try.func41, Try.ntmps41
   go_wp2_with (first | ((with_reducible refine gate_dst (N := 9) rfl ?_); refine Kd.S_make (Kd.slice 3 (Kd.int .i64)) _ 22 rfl (N := 9) rfl 23 _ _ rfl a0 rfl rfl Try.underlying23 (.slice none 0 0) 24 info22 rfl (by decide) (by omega) [] (ok := fun _ => True) (okp := fun _ => True) ⟨_, rfl, Kd.R_nil _ _ _ _ _⟩ (fun _ hk => hk) trivial (of_decide_eq_true (by first | (with_reducible assumption) | assumption)) (Nat.le_trans (Nat.mul_le_mul_right _ (of_decide_eq_true (by first | (with_reducible assumption) | assumption) : a0.toNat ≤ 11728124029610)) (by omega)) (Below.refl _ _) (Nat.le_refl _) ?_; intro v124 w5 ho6 hb hg_ hnew_; clear hg_ hnew_; (first | rw [← Ny123.out] at ho6 | (simp only [Int.reduceToNat] at ho6; rw [← Ny123.out] at ho6)); have n0_ := Aside0.mk (Kd.S_lower ho6 (below_size (by repeat (first | (with_reducible first | exact HB.out | apply below_alloc | apply pw_below_drewN | apply below_drew1) | exact HB.out)))); have n1_ := Aside0.mk (below_step (by repeat (first | (with_reducible first | exact HB.out | apply below_alloc | apply pw_below_drewN | apply below_drew1) | exact HB.out)) hb); clear HB; have HO125 := n0_; have HB := n1_; clear n0_ n1_; clear hb ho6; obtain ⟨Ao7, co7, eo7⟩ := Kd.S_slice HO125.out; subst eo7))
   go_loopg [12] k (fun kq v12 w' => ∃ (x5_1 : List (List Int)) (x12_1 : Int), v12 = .int .i64 x12_1 ∧ Aside0 (maxplus_matrix.l0 kq a1 x5_1 (y123.length : Int) x12_1 = some r) ∧ Aside0 (kq ≤ k) ∧ Aside0 (Kd.S (Kd.slice 3 (Kd.int .i64)) 22 w' w.heap.size (fun _ => True) (.slice Ao7 y123.length co7) x5_1) ∧ Aside0 (Below w.heap.size w w'))
   case atStart => exact ⟨(y123), (0), (by first | rfl | (simp; done) | (simp [*]; done)), H', ⟨Nat.le_refl _⟩, ⟨by (with_reducible repeat (first | apply Kd.S_alloc | apply Kd.S_drewN | apply Kd.S_drew)); exact HO125.out⟩, ⟨by repeat (first | (with_reducible first | exact HB.out | apply below_alloc | apply pw_below_drewN | apply below_drew1) | exact HB.out)⟩⟩
   case round =>
    clear H'
    try clear p2
    try clear c3
    try clear c3b0
    try clear c3b1
    try clear c4
    try clear c4b0
    try clear c4b1
    obtain ⟨x5_1, x12_1, rfl, HA, HK1, HO_5, HB⟩ := hrel
    have hl5_1 := (Kd.S_reads' HO_5.out).1
    rw [hl5_1] at HO_5
    (try simp only [hl5_1])
    cases gk with
    | zero => exact absurd HA.out (by simp [maxplus_matrix.l0])
    | succ k1 =>
     have H := HA.out
     clear HA
     simp only [maxplus_matrix.l0] at H
     by_cases c8 : x12_1 < (y123.length : Int)
     ·rw [if_pos c8] at H
      have c8b0 : decide (x12_1 < (y123.length : Int)) = true := decide_eq_true c8
      (try (have c8b9_0 := c8b0; simp only [hl5_1] at c8b9_0))
      clear c8
      by_cases c9 : 0 ≤ a1
      ·rw [if_pos c9] at H
       have c9b0 := eq_true c9
       have c9b1 : decide (0 ≤ a1) = true := decide_eq_true c9
       clear c9
       by_cases c10 : (a1 : Int).toNat ≤ 35184372088832
       ·rw [if_pos c10] at H
        have c10b0 := eq_true c10
        have c10b1 : decide ((a1 : Int).toNat ≤ 35184372088832) = true := decide_eq_true c10
        clear c10
        obtain ⟨y126, hy126⟩ : ∃ y_ : List Int, y_ = (List.replicate (a1 : Int).toNat 0) := ⟨_, rfl⟩
        replace H : (if 0 ≤ x12_1 then (if x12_1 < (x5_1.length : Int) then ((some (x5_1.set (x12_1 : Int).toNat y126 : List (List Int))).bind fun y129 => (maxplus_matrix.l1 k1 a1 y129 x12_1 (y123.length : Int) x12_1 ((rd_L1 y129 x12_1).length : Int) 0)) else (none)) else (none)) = some r := by first | (rw [hy126]; with_reducible exact H) | (have H2_ := (Option.bind_some _ _).symm.trans H; rw [hy126]; with_reducible exact H2_) | (have H2_ := (Option.bind_some _ _).symm.trans H; with_reducible exact H2_) | with_reducible exact H | (rw [hy126]; exact H) | exact H
        have Ny126 := Aside0.mk hy126
        clear hy126
        by_cases c11 : 0 ≤ x12_1
        ·rw [if_pos c11] at H
         have c11b0 : decide (0 ≤ x12_1) = true := decide_eq_true c11
         clear c11
         by_cases c12 : x12_1 < (x5_1.length : Int)
         ·rw [if_pos c12] at H
          have c12b0 : decide (x12_1 < (x5_1.length : Int)) = true := decide_eq_true c12
          (try (have c12b9_0 := c12b0; simp only [hl5_1] at c12b9_0))
          clear c12
          obtain ⟨y129, hy129⟩ : ∃ y_ : List (List Int), y_ = (x5_1.set (x12_1 : Int).toNat y126) := ⟨_, rfl⟩
          replace H : (maxplus_matrix.l1 k1 a1 y129 x12_1 (y123.length : Int) x12_1 ((rd_L1 y129 x12_1).length : Int) 0) = some r := by first | (rw [hy129]; with_reducible exact H) | (have H2_ := (Option.bind_some _ _).symm.trans H; rw [hy129]; with_reducible exact H2_) | (have H2_ := (Option.bind_some _ _).symm.trans H; with_reducible exact H2_) | with_reducible exact H | (rw [hy129]; exact H) | exact H
          have Ny129 := Aside0.mk hy129
          clear hy129
          have H' := Aside0.mk H
          clear H
          go_wp2_with (first | ((with_reducible refine gate_dst (N := 18) rfl ?_); refine Kd.R_make (Kd.int .i64) _ 3 rfl (N := 18) rfl 22 _ _ rfl a1 rfl rfl Try.underlying22 (.int .i64 0) 8 info3 rfl (by decide) (by omega) 0 (ok := fun _ => True) (okp := fun _ => True) rfl (fun _ hk => hk) trivial (of_decide_eq_true (by first | (with_reducible assumption) | assumption)) (Nat.le_trans (Nat.mul_le_mul_right _ (of_decide_eq_true (by first | (with_reducible assumption) | assumption) : a1.toNat ≤ 35184372088832)) (by omega)) (Below.refl _ _) (Nat.le_refl _) ?_; intro v127 w14 ho15 hb hg_ hnew_; clear hg_ hnew_; (first | rw [← Ny126.out] at ho15 | (simp only [Int.reduceToNat] at ho15; rw [← Ny126.out] at ho15)); have n0_ := Aside0.mk (Kd.S_elder' (by (with_reducible repeat (first | apply Kd.S_alloc | apply Kd.S_drewN | apply Kd.S_drew)); exact HO_5.out) (by first | exact Kd.N_base ho15 | exact Kd.S_base ho15 | exact Kd.R_base ho15 | exact Kd.Q_base ho15) hb); have n1_ := Aside0.mk (Kd.R_lower ho15 (below_size (by repeat (first | (with_reducible first | exact HB.out | apply below_alloc | apply pw_below_drewN | apply below_drew1) | exact HB.out)))); have n2_ := Aside0.mk (below_step (by repeat (first | (with_reducible first | exact HB.out | apply below_alloc | apply pw_below_drewN | apply below_drew1) | exact HB.out)) hb); clear HO_5; clear HB; have HO_5 := n0_; have HO128 := n1_; have HB := n2_; clear n0_ n1_ n2_; clear hb ho15; have p13 : 0 ≤ (x12_1 : Int) := of_decide_eq_true (by first | (with_reducible assumption) | assumption); have q13 : (x12_1 : Int) < ((x5_1.length : Int) : Int) := of_decide_eq_true (by first | (with_reducible assumption) | assumption); obtain ⟨go13, co13, eo13, gb13, gl13, cl13, HG13⟩ := Kd.S_form HO_5.out (by omega); (first | cases eo13 | (injection eo13 with ea_ en_ ec_; (first | subst ea_ | (injection ea_ with ea_; subst ea_)); subst ec_; clear en_)); have GB13 := Aside0.mk gb13; have GG13 := Aside0.mk HG13; clear gb13 gl13 HG13; obtain ⟨_, ce13, hcl13, hM13, hcc13, hfr13, _, _⟩ := Kd.S_elem HO_5.out [] (x12_1 : Int) p13 q13; obtain ⟨ve13_0, rfl, ge13_0⟩ := hM13; have hx13_0 := hcc13 0 _ rfl; have hf13_0 := hfr13 0; (try simp only [show ((Kd.slice 3 (Kd.int .i64))).sz = 1 from rfl, Nat.mul_one, Nat.add_zero] at hx13_0); (try simp only [show ((Kd.slice 3 (Kd.int .i64))).sz = 1 from rfl, Nat.mul_one, Nat.add_zero] at hf13_0); (try clear hM13); clear hcl13 hcc13 hfr13; replace p13 := eq_true p13; replace q13 := eq_true q13; have n_ := Aside0.mk (Kd.S_mono (ok' := (fun k_ => some k_ ≠ (v127 : Value).ownBlock)) HO_5.out (fun k_ hk => hk.2)); clear HO_5; have HO_5 := n_; clear n_; have HX16 := Aside0.mk (show Kd.S (Kd.slice 3 (Kd.int .i64)) 22 w14 w.heap.size (fun k_ => ((fun _ => True)) k_ ∧ ¬ ((fun k_ => some k_ = (v127 : Value).ownBlock)) k_) (.slice (some ⟨go13, 0, none⟩) x5_1.length co7) x5_1 from (by (with_reducible repeat (first | apply Kd.S_alloc | apply Kd.S_drewN | apply Kd.S_drew)); exact Kd.S_mono HO_5.out (fun k_ hk => ⟨trivial, fun e_ => hk e_⟩))); obtain ⟨oki16, ce16, hcl16, hM16, hcc16, hfr16, hoki16, hH16⟩ := Kd.S_elem HX16.out [] (x12_1 : Int) (of_decide_eq_true (by first | (with_reducible assumption) | assumption)) (by have h_ : (x12_1 : Int) < ((x5_1.length : Int) : Int) := of_decide_eq_true (by first | (with_reducible assumption) | assumption); first | exact h_ | (have e_ := (Kd.S_reads' HO_5.out).1; omega) | simpa using h_); obtain ⟨ve16_0, rfl, ge16_0⟩ := hM16; have HP16 := Kd.S_seg hH16 (of_decide_eq_true (by first | (with_reducible assumption) | assumption)) (by have h_ : (x12_1 : Int) < ((x5_1.length : Int) : Int) := of_decide_eq_true (by first | (with_reducible assumption) | assumption); first | exact h_ | (have e_ := (Kd.S_reads' HO_5.out).1; omega) | simpa using h_) (seg := [v127]) (j := 0) (show 1 ≤ 1 from by decide) (x' := y126) (Kd.M_row (Kd.R_mono (Kd.R_tight rfl (Kd.R_mono (ok' := fun k_ => ((fun _ => True)) k_ ∧ k_ ≠ go13) (Kd.R_apart' (HO128.out) (Kd.S_typed HO_5.out) (by decide)) (fun k_ hk => ⟨trivial, fun e_ => (hk.2) (by rw [e_]; rfl)⟩))) (fun _ h_ => Or.inr (h_)))) (fun _ hk => hk) (fun k_ hk_ => ((Kd.R_mono (ok' := fun k_ => ((fun _ => True)) k_ ∧ k_ ≠ go13) (Kd.R_apart' (HO128.out) (Kd.S_typed HO_5.out) (by decide)) (fun k_ hk => ⟨trivial, fun e_ => (hk.2) (by rw [e_]; rfl)⟩))).1 k_ hk_.symm); have hx16_0 := hcc16 0 _ rfl; (try simp only [show ((Kd.slice 3 (Kd.int .i64))).sz = 1 from rfl, Nat.mul_one, Nat.add_zero] at hx16_0); have hf16_0 := hfr16 0; (try simp only [show ((Kd.slice 3 (Kd.int .i64))).sz = 1 from rfl, Nat.mul_one, Nat.add_zero] at hf16_0); (try clear hM16); clear hcl16 hcc16 hfr16 hoki16 hH16; (try simp only [show ((Kd.slice 3 (Kd.int .i64))).sz = 1 from rfl, Nat.mul_one, Nat.add_zero] at HP16)) | ((with_reducible refine gate_store (t := 22) (p := 19) rfl ?_); refine store_event (t := 22) (p := 19) (v := ?vo_w17) (w1 := (w14.setCell ⟨go13, (x12_1 : Int).toNat, none⟩ (v127))) ?hg ?ho ?hn ?hr ?_; (case ho => rfl); (case hg => rfl); (case hn => rfl); (case hr => first | (go_simp; done) | (go_simp; rfl) | (obtain ⟨_, _, e_⟩ := Kd.R_slice HO_5.out; subst e_; first | (go_simp; done) | (go_simp; rfl)) | (obtain ⟨_, _, e_⟩ := Kd.R_slice HO128.out; subst e_; first | (go_simp; done) | (go_simp; rfl))); intro w17 hw; have hg : w14.grownBy w17 (some go13) := (by rw [hw]; exact HP16.2); have hp_ : Kd.S (Kd.slice 3 (Kd.int .i64)) 22 w17 w.heap.size (fun _ => True) (.slice (some ⟨go13, 0, none⟩) x5_1.length co7) y129 := (by rw [hw, Ny129.out]; exact HP16.1); clear HP16; have n0_ := Aside0.mk (hp_); have n1_ := Aside0.mk ((by rw [hw]; exact below_set (HB.out) GB13.out : Below w.heap.size w w17)); clear HO_5; clear HB; clear HO128; have HO_5 := n0_; have HB := n1_; clear n0_ n1_; clear hg hw hp_; have p130 : 0 ≤ (x12_1 : Int) := of_decide_eq_true (by first | (with_reducible assumption) | assumption); have q130 : x12_1 < (y129.length : Int) := (by have h_ : (x12_1 : Int) < ((x5_1.length : Int) : Int) := of_decide_eq_true (by first | (with_reducible assumption) | assumption); first | (have e_ := (Kd.S_reads' HO_5.out).1; omega) | simpa only [Ny129.out, List.length_set] using h_); have ql130 : ((x12_1 : Int) < ((x5_1.length : Int) : Int)) = True := eq_true (of_decide_eq_true (by first | (with_reducible assumption) | assumption)); obtain ⟨ad130, A130_0, c130_0, e130, hx130_0, hl130_0, hi130_0⟩ := at_L1 (Kd.S_reads' HO_5.out).2.2 x12_1 p130 q130; obtain rfl : (⟨go13, 0, none⟩ : Addr) = ad130 := (by injection e130); obtain ⟨ce130, hce130, hMe130, hcc130⟩ := Kd.S_get HO_5.out [] x12_1 p130 (by first | exact q130 | exact of_decide_eq_true (by first | (with_reducible assumption) | assumption) | (have e_ := (Kd.S_reads' HO_5.out).1; omega)); obtain ⟨ve130_0, rfl, ge130_0⟩ := hMe130; have hv130_0 := hcc130 0 _ rfl; rw [Nat.add_zero, show ((Kd.slice 3 (Kd.int .i64))).sz = 1 from rfl, Nat.mul_one] at hv130_0; replace hv130_0 := Option.some.inj (hv130_0.symm.trans hx130_0); rw [hv130_0] at ge130_0; have HL130_0 := Aside0.mk (show Kd.R (Kd.int .i64) 3 _ _ _ _ (rd_L1 y129 x12_1) from ge130_0); clear hv130_0 ge130_0; have HX130_0 := Aside0.mk hx130_0; clear hcc130 hce130; (first | simp only [add_plain] at hx130_0 | simp only [add_at] at hx130_0 | simp only [Addr.add, Nat.zero_add] at hx130_0 | skip); have HR130_0 := Aside0.mk hi130_0; have HC130_0 := Aside0.mk hl130_0; clear hi130_0 hl130_0; replace p130 := eq_true p130; replace q130 := eq_true q130))
          go_loopg [25] k1 (fun kq v25 w' => ∃ (x5_2 : List (List Int)) (x25_2 : Int), v25 = .int .i64 x25_2 ∧ Aside0 (maxplus_matrix.l1 kq a1 x5_2 x12_1 (y123.length : Int) x12_1 ((rd_L1 y129 x12_1).length : Int) x25_2 = some r) ∧ Aside0 (kq ≤ k1) ∧ Aside0 (Kd.S (Kd.slice 3 (Kd.int .i64)) 22 w' w.heap.size (fun _ => True) (.slice (some ⟨go13, 0, none⟩) x5_1.length co7) x5_2) ∧ Aside0 (Below w.heap.size w w'))
          case atStart => exact ⟨(y129), (0), (by first | rfl | (simp; done) | (simp [*]; done)), H', ⟨Nat.le_refl _⟩, ⟨by (try simp only [hl5_1]); (with_reducible repeat (first | apply Kd.S_alloc | apply Kd.S_drewN | apply Kd.S_drew)); exact HO_5.out⟩, ⟨by repeat (first | (with_reducible first | exact HB.out | apply below_alloc | apply pw_below_drewN | apply below_drew1) | exact HB.out)⟩⟩
          case round =>
           clear H'
           try clear c1
           try clear p1
           try clear q1
           try clear hx1
           try clear p2
           try clear c3
           try clear c3b0
           try clear c3b1
           try clear c4
           try clear c4b0
           try clear c4b1
           try clear c8
           try clear c8b0
           try clear c9
           try clear c9b0
           try clear c9b1
           try clear c10
           try clear c10b0
           try clear c10b1
           try clear c11
           try clear c11b0
           try clear c12
           try clear c12b0
           try clear c13
           try clear p13
           try clear q13
           try clear hx13
           try clear hf13
           try clear c16
           try clear hx16
           try clear hf16
           try clear hx130_0
           try clear hx13_0
           try clear hx16_0
           try clear p13
           try clear p130
           try clear p2
           try clear q13
           try clear q130
           obtain ⟨x5_2, x25_2, rfl, HA, HK2, HO_5, HB⟩ := hrel
           have hl5_2 := (Kd.S_reads' HO_5.out).1
           rw [hl5_2] at HO_5
           (try simp only [hl5_2])
           cases gk with
           | zero => exact absurd HA.out (by simp [maxplus_matrix.l1])
           | succ k2 =>
            have H := HA.out
            clear HA
            simp only [maxplus_matrix.l1] at H
            by_cases c18 : x25_2 < ((rd_L1 y129 x12_1).length : Int)
            ·rw [if_pos c18] at H
             have c18b0 : decide (x25_2 < ((rd_L1 y129 x12_1).length : Int)) = true := decide_eq_true c18
             (try (have c18b9_0 := c18b0; simp only [hl5_1] at c18b9_0))
             (try (have c18b9_1 := c18b0; simp only [hl5_2] at c18b9_1))
             clear c18
             by_cases c19 : 0 ≤ x12_1
             ·rw [if_pos c19] at H
              have c19b0 : decide (0 ≤ x12_1) = true := decide_eq_true c19
              clear c19
              by_cases c20 : x12_1 < (x5_2.length : Int)
              ·rw [if_pos c20] at H
               have c20b0 : decide (x12_1 < (x5_2.length : Int)) = true := decide_eq_true c20
               (try (have c20b9_0 := c20b0; simp only [hl5_1] at c20b9_0))
               (try (have c20b9_1 := c20b0; simp only [hl5_2] at c20b9_1))
               clear c20
               by_cases c21 : 0 ≤ x25_2
               ·rw [if_pos c21] at H
                have c21b0 : decide (0 ≤ x25_2) = true := decide_eq_true c21
                clear c21
                by_cases c22 : x25_2 < ((rd_L1 x5_2 x12_1).length : Int)
                ·rw [if_pos c22] at H
                 have c22b0 : decide (x25_2 < ((rd_L1 x5_2 x12_1).length : Int)) = true := decide_eq_true c22
                 (try (have c22b9_0 := c22b0; simp only [hl5_1] at c22b9_0))
                 (try (have c22b9_1 := c22b0; simp only [hl5_2] at c22b9_1))
                 clear c22
                 obtain ⟨y132, hy132⟩ : ∃ y_ : List Int, y_ = ((rd_L1 x5_2 x12_1).set (x25_2 : Int).toNat (-1125899906842624)) := ⟨_, rfl⟩
                 replace H : (maxplus_matrix.l1 k2 a1 (x5_2.set (x12_1 : Int).toNat y132) x12_1 (y123.length : Int) x12_1 ((rd_L1 y129 x12_1).length : Int) (wrap64 (x25_2 + 1))) = some r := by first | (rw [hy132]; with_reducible exact H) | (have H2_ := (Option.bind_some _ _).symm.trans H; rw [hy132]; with_reducible exact H2_) | (have H2_ := (Option.bind_some _ _).symm.trans H; with_reducible exact H2_) | with_reducible exact H | (rw [hy132]; exact H) | exact H
                 have Ny132 := Aside0.mk hy132
                 clear hy132
                 obtain ⟨y134, hy134⟩ : ∃ y_ : List (List Int), y_ = (x5_2.set (x12_1 : Int).toNat y132) := ⟨_, rfl⟩
                 replace H : (maxplus_matrix.l1 k2 a1 y134 x12_1 (y123.length : Int) x12_1 ((rd_L1 y129 x12_1).length : Int) (wrap64 (x25_2 + 1))) = some r := by first | (rw [hy134]; with_reducible exact H) | (have H2_ := (Option.bind_some _ _).symm.trans H; rw [hy134]; with_reducible exact H2_) | (have H2_ := (Option.bind_some _ _).symm.trans H; with_reducible exact H2_) | with_reducible exact H | (rw [hy134]; exact H) | exact H
                 have Ny134 := Aside0.mk hy134
                 clear hy134
                 have H' := Aside0.mk H
                 clear H
                 have p131 : 0 ≤ (x12_1 : Int) := of_decide_eq_true (by first | (with_reducible assumption) | assumption)
                 have q131 : x12_1 < (x5_2.length : Int) := of_decide_eq_true (by first | (with_reducible assumption) | assumption)
                 obtain ⟨ad131, A131_0, c131_0, e131, hx131_0, hl131_0, hi131_0⟩ := at_L1 (Kd.S_reads' HO_5.out).2.2 x12_1 p131 q131
                 obtain rfl : (⟨go13, 0, none⟩ : Addr) = ad131 := (by injection e131)
                 obtain ⟨ce131, hce131, hMe131, hcc131⟩ := Kd.S_get HO_5.out [] x12_1 p131 (by first | exact q131 | exact of_decide_eq_true (by first | (with_reducible assumption) | assumption) | (have e_ := (Kd.S_reads' HO_5.out).1; omega))
                 obtain ⟨ve131_0, rfl, ge131_0⟩ := hMe131
                 have hv131_0 := hcc131 0 _ rfl
                 rw [Nat.add_zero, show ((Kd.slice 3 (Kd.int .i64))).sz = 1 from rfl, Nat.mul_one] at hv131_0
                 replace hv131_0 := Option.some.inj (hv131_0.symm.trans hx131_0)
                 rw [hv131_0] at ge131_0
                 have HL131_0 := Aside0.mk (show Kd.R (Kd.int .i64) 3 _ _ _ _ (rd_L1 x5_2 x12_1) from ge131_0)
                 clear hv131_0 ge131_0
                 have HX131_0 := Aside0.mk hx131_0
                 clear hcc131 hce131
                 (first | simp only [add_plain] at hx131_0 | simp only [add_at] at hx131_0 | simp only [Addr.add, Nat.zero_add] at hx131_0 | skip)
                 have HR131_0 := Aside0.mk hi131_0
                 have HC131_0 := Aside0.mk hl131_0
                 clear hi131_0 hl131_0
                 replace p131 := eq_true p131
                 replace q131 := eq_true q131
                 have p23 : 0 ≤ (x25_2 : Int) := of_decide_eq_true (by first | (with_reducible assumption) | assumption)
                 have q23 : (x25_2 : Int) < (((rd_L1 x5_2 x12_1).length : Int) : Int) := of_decide_eq_true (by first | (with_reducible assumption) | assumption)
                 obtain ⟨go23, co23, eo23, gb23, gl23, cl23, HG23⟩ := Kd.R_form HL131_0.out (by omega)
                 (first | cases eo23 | (injection eo23 with ea_ en_ ec_; (first | subst ea_ | (injection ea_ with ea_; subst ea_)); subst ec_; clear en_))
                 have GB23 := Aside0.mk gb23
                 have GG23 := Aside0.mk HG23
                 clear gb23 gl23 HG23
                 obtain ⟨hx23_0, hf23_0⟩ := Kd.R_celln 0 HL131_0.out (x25_2 : Int) p23 q23
                 replace p23 := eq_true p23
                 replace q23 := eq_true q23
                 have hq24 : (x12_1 : Int) < (x5_2.length : Int) := (by have h_ : (x12_1 : Int) < ((x5_2.length : Int) : Int) := of_decide_eq_true (by first | (with_reducible assumption) | assumption); first | exact h_ | (have e_ := (Kd.S_reads' HO_5.out).1; omega) | simpa only [List.length_set, List.length_set] using h_)
                 obtain ⟨oki24, ce24, hcl24, hM24, hcc24, hok24, hbk24⟩ := Kd.S_borrow HO_5.out [] (x12_1 : Int) (of_decide_eq_true (by first | (with_reducible assumption) | assumption)) hq24
                 obtain ⟨ve24_0, rfl, ge24_0⟩ := hM24
                 have hv24 := hcc24 0 _ rfl
                 rw [Nat.add_zero, show ((Kd.slice 3 (Kd.int .i64))).sz = 1 from rfl, Nat.mul_one] at hv24
                 replace hv24 := Option.some.inj (hv24.symm.trans HX131_0.out)
                 subst hv24
                 clear hcc24 hcl24
                 replace ge24_0 := (show Kd.R (Kd.int .i64) 3 _ _ _ _ (rd_L1 x5_2 x12_1) from ge24_0)
                 have HP24 := Kd.R_putg ge24_0 (x25_2 : Int) (-1125899906842624)
                 go_wp2_with (first | ((with_reducible refine gate_store (t := 3) (p := 33) rfl ?_); refine store_event (t := 3) (p := 33) (v := ?vo_w25) (w1 := (wr.setCell ⟨go23, (x25_2 : Int).toNat, none⟩ (.int .i64 (-1125899906842624)))) ?hg ?ho ?hn ?hr ?_; (case ho => rfl); (case hg => rfl); (case hn => rfl); (case hr => first | (go_simp; done) | (go_simp; rfl)); intro w25 hw; have hg : wr.grownBy w25 (some go23) := (by rw [hw]; exact HP24.2); have hz_ : Kd.R (Kd.int .i64) 3 w25 w.heap.size oki24 (.slice (some ⟨go23, 0, none⟩) (rd_L1 x5_2 x12_1).length c131_0) y132 := (by rw [hw, Ny132.out]; exact HP24.1); have hp_ : Kd.S (Kd.slice 3 (Kd.int .i64)) 22 w25 w.heap.size (fun _ => True) (.slice (some ⟨go13, 0, none⟩) x5_2.length co7) y134 := (by rw [Ny134.out]; exact hbk24 hg (fun k_ e_ => by injection e_ with e_; subst e_; exact ge24_0.1 _ rfl) (Kd.M_row hz_)); have hm_ := Kd.R_mono hz_ hok24; clear HP24 hbk24; have n0_ := Aside0.mk (hp_); have n1_ := Aside0.mk ((by rw [hw]; exact below_set (HB.out) GB23.out : Below w.heap.size w w25)); have n2_ := Aside0.mk (hm_); have n3_ := Aside0.mk ((Kd.R_reads' hm_).2.1); clear HO_5; clear HB; clear HL131_0; have HO_5 := n0_; have HB := n1_; have HL135 := n2_; have HC133 := n3_; clear n0_ n1_ n2_ n3_; clear hg hw hp_ hz_ hm_ hok24))
                 (try simp only [← hl5_2])
                 go_roundg k2
                 case measure => have := HK1.out; have := HK2.out; omega
                 case rel => exact ⟨(y134), (wrap64 (x25_2 + 1)), (by first | rfl | (simp; done) | (simp [*]; done)), H', ⟨by have := HK1.out; have := HK2.out; omega⟩, ⟨by (try simp only [hl5_1]); (try simp only [hl5_2]); (with_reducible repeat (first | apply Kd.S_alloc | apply Kd.S_drewN | apply Kd.S_drew)); exact HO_5.out⟩, ⟨by repeat (first | (with_reducible first | exact HB.out | apply below_alloc | apply pw_below_drewN | apply below_drew1) | exact HB.out)⟩⟩
                ·rw [if_neg c22] at H
                 exact absurd H (by simp)
               ·rw [if_neg c21] at H
                exact absurd H (by simp)
              ·rw [if_neg c20] at H
               exact absurd H (by simp)
             ·rw [if_neg c19] at H
              exact absurd H (by simp)
            ·rw [if_neg c18] at H
             have c18b0 : decide (x25_2 < ((rd_L1 y129 x12_1).length : Int)) = false := decide_eq_false c18
             (try (have c18b9_0 := c18b0; simp only [hl5_1] at c18b9_0))
             (try (have c18b9_1 := c18b0; simp only [hl5_2] at c18b9_1))
             clear c18
             have H' := Aside0.mk H
             clear H
             go_wp2
             (try simp only [← hl5_1, ← hl5_2])
             go_roundg k2
             case measure => have := HK1.out; have := HK2.out; omega
             case rel => exact ⟨(x5_2), (wrap64 (x12_1 + 1)), (by first | rfl | (simp; done) | (simp [*]; done)), H', ⟨by have := HK1.out; have := HK2.out; omega⟩, ⟨by (try simp only [hl5_1]); (try simp only [hl5_2]); (with_reducible repeat (first | apply Kd.S_alloc | apply Kd.S_drewN | apply Kd.S_drew)); exact HO_5.out⟩, ⟨by repeat (first | (with_reducible first | exact HB.out | apply below_alloc | apply pw_below_drewN | apply below_drew1) | exact HB.out)⟩⟩
         ·rw [if_neg c12] at H
          exact absurd H (by simp)
        ·rw [if_neg c11] at H
         exact absurd H (by simp)
       ·rw [if_neg c10] at H
        exact absurd H (by simp)
      ·rw [if_neg c9] at H
       exact absurd H (by simp)
     ·rw [if_neg c8] at H
      have c8b0 : decide (x12_1 < (y123.length : Int)) = false := decide_eq_false c8
      (try (have c8b9_0 := c8b0; simp only [hl5_1] at c8b9_0))
      clear c8
      obtain rfl := Option.some.inj H
      go_wp2
      go_ret
      exact ⟨_, by first | rfl | (simp [errW_none, errW_some] <;> rfl) | (simp [*, errW_none, errW_some] <;> rfl), by (with_reducible repeat (first | apply Kd.S_alloc | apply Kd.S_drewN | apply Kd.S_drew)); exact HO_5.out, by repeat (first | (with_reducible first | exact HB.out | apply below_alloc | apply pw_below_drewN | apply below_drew1) | exact HB.out)⟩
  ·rw [if_neg c4] at H
   exact absurd H (by simp)
 ·rw [if_neg c3] at H
  exact absurd H (by simp)

/-! ### maxplus_sum: function 54 -/
def maxplus_sum.f (a0 : Int) (a1 : Int) : Option (Int) := if a0 = (-1125899906842624) then (some (-1125899906842624)) else (if a1 = (-1125899906842624) then (some (-1125899906842624)) else (some (wrap64 (a0 + a1))))
set_option maxHeartbeats 8000000 in
set_option maxRecDepth 100000 in
theorem maxplus_sum.calls (a0 : Int) (a1 : Int) (r : Int) (w : World) (h : maxplus_sum.f a0 a1 = some r) :
  Calls Try.prog 54 #[.int .i64 a0, .int .i64 a1] w fun e w' => e = .returned (.int .i64 r) ∧ Drawn0 w w' := by
 have H : (if a0 = (-1125899906842624) then (some (-1125899906842624)) else (if a1 = (-1125899906842624) then (some (-1125899906842624)) else (some (wrap64 (a0 + a1))))) = some r := h
 clear h
 by_cases c3 : a0 = (-1125899906842624)
 ·rw [if_pos c3] at H
  have c3b0 : (a0 == (-1125899906842624)) = true := beq_iff_eq.mpr c3
  have c3b1 : (a0 != (-1125899906842624)) = false := bne_eq_false_iff_eq.mpr c3
  clear c3
  obtain rfl := Option.some.inj H
  go_enter Try.func54, Try.ntmps54
  go_wp2
  go_ret
  exact ⟨by first | rfl | (simp; done) | (simp [*]; done), by repeat (first | exact Drawn0.refl _ | apply Drawn0.step)⟩
 ·rw [if_neg c3] at H
  have c3b0 : (a0 == (-1125899906842624)) = false := beq_eq_false_iff_ne.mpr c3
  have c3b1 : (a0 != (-1125899906842624)) = true := bne_iff_ne.mpr c3
  by_cases c4 : a1 = (-1125899906842624)
  ·rw [if_pos c4] at H
   have c4b0 : (a1 == (-1125899906842624)) = true := beq_iff_eq.mpr c4
   have c4b1 : (a1 != (-1125899906842624)) = false := bne_eq_false_iff_eq.mpr c4
   clear c4
   obtain rfl := Option.some.inj H
   go_enter Try.func54, Try.ntmps54
   go_wp2
   go_ret
   exact ⟨by first | rfl | (simp; done) | (simp [*]; done), by repeat (first | exact Drawn0.refl _ | apply Drawn0.step)⟩
  ·rw [if_neg c4] at H
   have c4b0 : (a1 == (-1125899906842624)) = false := beq_eq_false_iff_ne.mpr c4
   have c4b1 : (a1 != (-1125899906842624)) = true := bne_iff_ne.mpr c4
   obtain rfl := Option.some.inj H
   go_enter Try.func54, Try.ntmps54
   go_wp2
   go_ret
   exact ⟨by first | rfl | (simp; done) | (simp [*]; done), by repeat (first | exact Drawn0.refl _ | apply Drawn0.step)⟩

end Go.Proofs.Ytnmhdeibjglhcaa.XAll
