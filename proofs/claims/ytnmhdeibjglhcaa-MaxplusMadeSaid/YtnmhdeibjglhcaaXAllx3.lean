-- This session's own text, written by wip/tools/xall.py after the form of the kit's print.
import Derived.Test.YtnmhdeibjglhcaaXAllx0
import Derived.Test.YtnmhdeibjglhcaaXAllx2
namespace Go.Proofs.Ytnmhdeibjglhcaa.XAll
open Go.RowKit Go.Proofs.YtnmhdeibjglhcaaW.PrintWords Go.Proofs.YtnmhdeibjglhcaaW.PrintLast Go.Proofs.YtnmhdeibjglhcaaW.PrintMore
attribute [local go_sem] max2_int min2_int max_two min_two max_three min_three max_four min_four   -- for this text's walks alone
set_option linter.unusedVariables false
set_option linter.unusedSimpArgs false

/-! ### maxplus_product: function 42 -/
mutual
def maxplus_product.l0 : Nat → List (List Int) → List (List Int) → List (List Int) → Int → Int → Option ((List (List Int)))
 | 0, _, _, _, _, _ => none
 | k + 1, x1, x5, x19, x20, x21 => if x21 < x20 then (if 0 ≤ x21 then (if x21 < (x19.length : Int) then (maxplus_product.l1 k x1 x5 x21 x19 x20 x21 (rd_L1 x19 x21) ((rd_L1 x19 x21).length : Int) 0) else (none)) else (none)) else (some x5)
def maxplus_product.l1 : Nat → List (List Int) → List (List Int) → Int → List (List Int) → Int → Int → List Int → Int → Int → Option ((List (List Int)))
 | 0, _, _, _, _, _, _, _, _, _ => none
 | k + 1, x1, x5, x6, x19, x20, x21, x26, x27, x28 => if x28 < x27 then (if 0 ≤ x28 then (if x28 < (x26.length : Int) then (if x28 < (x1.length : Int) then (maxplus_product.l2 k x1 x5 x6 (rd x26 x28) x19 x20 x21 x26 x27 x28 (rd_L1 x1 x28) ((rd_L1 x1 x28).length : Int) 0) else (none)) else (none)) else (none)) else (maxplus_product.l0 k x1 x5 x19 x20 (wrap64 (x21 + 1)))
def maxplus_product.l2 : Nat → List (List Int) → List (List Int) → Int → Int → List (List Int) → Int → Int → List Int → Int → Int → List Int → Int → Int → Option ((List (List Int)))
 | 0, _, _, _, _, _, _, _, _, _, _, _, _, _ => none
 | k + 1, x1, x5, x6, x9, x19, x20, x21, x26, x27, x28, x36, x37, x38 => if x38 < x37 then (if 0 ≤ x38 then (if x38 < (x36.length : Int) then (if 0 ≤ x6 then (if x6 < (x5.length : Int) then (if x38 < ((rd_L1 x5 x6).length : Int) then ((maxplus_sum.f x9 (rd x36 x38)).bind fun t147 => (maxplus_product.l2 k x1 (x5.set (x6 : Int).toNat ((rd_L1 x5 x6).set (x38 : Int).toNat (mx (rd (rd_L1 x5 x6) x38) t147))) x6 x9 x19 x20 x21 x26 x27 x28 x36 x37 (wrap64 (x38 + 1)))) else (none)) else (none)) else (none)) else (none)) else (none)) else (maxplus_product.l1 k x1 x5 x6 x19 x20 x21 x26 x27 (wrap64 (x28 + 1)))
end
def maxplus_product.f (k : Nat) (l0 : List (List Int)) (l1 : List (List Int)) : Option ((List (List Int))) := if 0 < (l1.length : Int) then ((maxplus_matrix.f k (l0.length : Int) ((rd_L1 l1 0).length : Int)).bind fun t137 => (maxplus_product.l0 k l1 t137 l0 (l0.length : Int) 0)) else (none)
theorem maxplus_product.mono_l : ∀ k, (∀ y0 y1 y2 y3 y4, LeO (maxplus_product.l0 k y0 y1 y2 y3 y4) (maxplus_product.l0 (k + 1) y0 y1 y2 y3 y4)) ∧ (∀ y0 y1 y2 y3 y4 y5 y6 y7 y8, LeO (maxplus_product.l1 k y0 y1 y2 y3 y4 y5 y6 y7 y8) (maxplus_product.l1 (k + 1) y0 y1 y2 y3 y4 y5 y6 y7 y8)) ∧ (∀ y0 y1 y2 y3 y4 y5 y6 y7 y8 y9 y10 y11 y12, LeO (maxplus_product.l2 k y0 y1 y2 y3 y4 y5 y6 y7 y8 y9 y10 y11 y12) (maxplus_product.l2 (k + 1) y0 y1 y2 y3 y4 y5 y6 y7 y8 y9 y10 y11 y12))
 | 0 => ⟨fun _ _ _ _ _ r h => by simp [maxplus_product.l0] at h, fun _ _ _ _ _ _ _ _ _ r h => by simp [maxplus_product.l1] at h, fun _ _ _ _ _ _ _ _ _ _ _ _ _ r h => by simp [maxplus_product.l2] at h⟩
 | k + 1 => by
  obtain ⟨ih0, ih1, ih2⟩ := maxplus_product.mono_l k
  refine ⟨?_, ?_, ?_⟩
  ·intro y0 y1 y2 y3 y4
   unfold maxplus_product.l0
   repeat' first
   | (with_reducible exact ih0 _ _ _ _ _)
   | (with_reducible exact ih1 _ _ _ _ _ _ _ _ _)
   | (with_reducible exact ih2 _ _ _ _ _ _ _ _ _ _ _ _ _)
   | (with_reducible exact maxplus_matrix.mono _ _ _)
   | (with_reducible exact LeO.refl _)
   | (with_reducible exact LeO.none _)
   | (with_reducible refine LeO.ite ?_ ?_)
   | (with_reducible refine LeO.bind ?_ (fun _ => ?_))
   | exact ih0 _ _ _ _ _
   | exact ih1 _ _ _ _ _ _ _ _ _
   | exact ih2 _ _ _ _ _ _ _ _ _ _ _ _ _
   | exact maxplus_matrix.mono _ _ _
   | exact LeO.none _
   | refine LeO.ite ?_ ?_
   | refine LeO.bind ?_ (fun _ => ?_)
  ·intro y0 y1 y2 y3 y4 y5 y6 y7 y8
   unfold maxplus_product.l1
   repeat' first
   | (with_reducible exact ih0 _ _ _ _ _)
   | (with_reducible exact ih1 _ _ _ _ _ _ _ _ _)
   | (with_reducible exact ih2 _ _ _ _ _ _ _ _ _ _ _ _ _)
   | (with_reducible exact maxplus_matrix.mono _ _ _)
   | (with_reducible exact LeO.refl _)
   | (with_reducible exact LeO.none _)
   | (with_reducible refine LeO.ite ?_ ?_)
   | (with_reducible refine LeO.bind ?_ (fun _ => ?_))
   | exact ih0 _ _ _ _ _
   | exact ih1 _ _ _ _ _ _ _ _ _
   | exact ih2 _ _ _ _ _ _ _ _ _ _ _ _ _
   | exact maxplus_matrix.mono _ _ _
   | exact LeO.none _
   | refine LeO.ite ?_ ?_
   | refine LeO.bind ?_ (fun _ => ?_)
  ·intro y0 y1 y2 y3 y4 y5 y6 y7 y8 y9 y10 y11 y12
   unfold maxplus_product.l2
   repeat' first
   | (with_reducible exact ih0 _ _ _ _ _)
   | (with_reducible exact ih1 _ _ _ _ _ _ _ _ _)
   | (with_reducible exact ih2 _ _ _ _ _ _ _ _ _ _ _ _ _)
   | (with_reducible exact maxplus_matrix.mono _ _ _)
   | (with_reducible exact LeO.refl _)
   | (with_reducible exact LeO.none _)
   | (with_reducible refine LeO.ite ?_ ?_)
   | (with_reducible refine LeO.bind ?_ (fun _ => ?_))
   | exact ih0 _ _ _ _ _
   | exact ih1 _ _ _ _ _ _ _ _ _
   | exact ih2 _ _ _ _ _ _ _ _ _ _ _ _ _
   | exact maxplus_matrix.mono _ _ _
   | exact LeO.none _
   | refine LeO.ite ?_ ?_
   | refine LeO.bind ?_ (fun _ => ?_)
theorem maxplus_product.mono : ∀ a0 a1 k, LeO (maxplus_product.f k a0 a1) (maxplus_product.f (k + 1) a0 a1) := by
 intro a0 a1 k
 obtain ⟨ih0, ih1, ih2⟩ := maxplus_product.mono_l k
 unfold maxplus_product.f
 repeat' first
   | (with_reducible exact ih0 _ _ _ _ _)
   | (with_reducible exact ih1 _ _ _ _ _ _ _ _ _)
   | (with_reducible exact ih2 _ _ _ _ _ _ _ _ _ _ _ _ _)
   | (with_reducible exact maxplus_matrix.mono _ _ _)
   | (with_reducible exact LeO.refl _)
   | (with_reducible exact LeO.none _)
   | (with_reducible refine LeO.ite ?_ ?_)
   | (with_reducible refine LeO.bind ?_ (fun _ => ?_))
   | exact ih0 _ _ _ _ _
   | exact ih1 _ _ _ _ _ _ _ _ _
   | exact ih2 _ _ _ _ _ _ _ _ _ _ _ _ _
   | exact maxplus_matrix.mono _ _ _
   | exact LeO.none _
   | refine LeO.ite ?_ ?_
   | refine LeO.bind ?_ (fun _ => ?_)
def maxplus_product.T11 : Bool × List (List Nat × List Nat) := (true, [([], []), ([], []), ([0, 1], [0, 1]), ([2], [2]), ([], []), ([], []), ([], []), ([5, 6], [5, 6]), ([7], [7]), ([], []), ([8, 9], [8, 9]), ([10], [10]), ([], []), ([], []), ([12, 13], [12, 13]), ([11, 14], [11, 14]), ([3, 4, 0, 1, 2, 3, 4, 5, 6, 7, 8, 9, 10, 11, 12, 13, 14, 15], [3, 4]), ([16, 15, 14, 0, 1, 2, 3, 4, 5, 6, 7, 8, 9, 10, 11, 12, 13, 14, 15], [15, 16])])
def maxplus_product.B11 : List Nat := [0, 0, 3, 7, 0, 0, 0, 96, 224, 0, 992, 2016, 0, 0, 12288, 32736, 65535, 131071]
theorem maxplus_product.tab11 : rtab .any (opsOf Try.f42 11) = maxplus_product.T11 := by kernel_rfl
theorem maxplus_product.bits11 : waitsOk maxplus_product.T11.2 maxplus_product.B11 = true := by kernel_rfl
set_option maxHeartbeats 8000000 in
set_option maxRecDepth 100000 in
theorem maxplus_product.calls (k : Nat) (A0 : Option Addr) (c0 : Nat) (l0 : List (List Int)) (A1 : Option Addr) (c1 : Nat) (l1 : List (List Int)) (r : List (List Int)) (w : World) (hr0 : Kd.C (Kd.slice 3 (Kd.int .i64)) w A0 l0.length l0) (hc0 : l0.length ≤ c0) (hr1 : Kd.C (Kd.slice 3 (Kd.int .i64)) w A1 l1.length l1) (hc1 : l1.length ≤ c1) (h : maxplus_product.f k l0 l1 = some r) :
  Calls Try.prog 42 #[.slice A0 l0.length c0, .slice A1 l1.length c1] w fun e w' => ∃ v0_ : Value, e = .returned (v0_) ∧ Kd.S (Kd.slice 3 (Kd.int .i64)) 22 w' w.heap.size (fun _ => True) v0_ r ∧ Below w.heap.size w w' := by
 have HR0 := Aside0.mk hr0
 have HC0 := Aside0.mk hc0
 clear hr0 hc0
 have HR1 := Aside0.mk hr1
 have HC1 := Aside0.mk hc1
 clear hr1 hc1
 have HB := Aside0.mk (Below.refl w.heap.size w)
 have H : (if 0 < (l1.length : Int) then ((maxplus_matrix.f k (l0.length : Int) ((rd_L1 l1 0).length : Int)).bind fun t137 => (maxplus_product.l0 k l1 t137 l0 (l0.length : Int) 0)) else (none)) = some r := h
 clear h
 by_cases c3 : 0 < (l1.length : Int)
 ·rw [if_pos c3] at H
  have c3b0 : decide (0 < (l1.length : Int)) = true := decide_eq_true c3
  have c3b1 : decide (0 < l1.length) = true := decide_eq_true (by omega)
  clear c3
  replace H := Option.bind_eq_some_iff.mp H
  obtain ⟨t137, A40, H⟩ := H
  replace H : (maxplus_product.l0 k l1 t137 l0 (l0.length : Int) 0) = some r := H
  have A4 := Aside0.mk A40
  clear A40
  have H' := Aside0.mk H
  clear H
  have p136 : 0 ≤ (0 : Int) := (by omega)
  have q136 : 0 < (l1.length : Int) := of_decide_eq_true (by first | (with_reducible assumption) | assumption)
  obtain ⟨ad136, A136_0, c136_0, e136, hx136_0, hl136_0, hi136_0⟩ := at_L1 HR1.out 0 p136 q136
  cases e136
  have qi136 : (0 < l1.length) = True := eq_true (by omega)
  (try rw [show ((0 : Int)).toNat = 0 from rfl] at hx136_0)
  (try rw [Addr.add_zero'] at hx136_0)
  have HR136_0 := Aside0.mk hi136_0
  have HC136_0 := Aside0.mk hl136_0
  clear hi136_0 hl136_0
  replace p136 := eq_true p136
  replace q136 := eq_true q136
  go_enter Try.func42, Try.ntmps42
  go_wp2_with (first | ((with_reducible refine gate_callee (f := 41) rfl ?_); refine goesL_ (some 18) rfl rfl Try.func41 (by kernel_rfl) rfl #[.int .i64 (l0.length : Int), .int .i64 ((rd_L1 l1 0).length : Int)] rfl (by (try simp only [List.map_toArray, List.map_cons, List.map_nil]); first | done | rfl | (simp only [List.length_drop, List.length_take]; rfl)) ?_; (with_reducible refine (maxplus_matrix.calls k (l0.length : Int) ((rd_L1 l1 0).length : Int) t137 _ A4.out).mono ?_); rintro e w5 ⟨v138, rfl, ho0, hb⟩; refine ⟨_, rfl, ?_⟩; have n0_ := Aside0.mk (Kd.S_lower ho0 (below_size (by repeat (first | (with_reducible first | exact HB.out | apply below_alloc | apply pw_below_drewN | apply below_drew1) | exact HB.out)))); have n1_ := Aside0.mk (below_step (by repeat (first | (with_reducible first | exact HB.out | apply below_alloc | apply pw_below_drewN | apply below_drew1) | exact HB.out)) hb); clear HB; have HO139 := n0_; have HB := n1_; clear n0_ n1_; (try clear hb); (try clear hb2); (try clear hk); (try clear hi); (try clear ho0)))
  go_loopg [21] k (fun kq v21 w' => ∃ (x5_1 : List (List Int)) (x21_1 : Int), v21 = .int .i64 x21_1 ∧ Aside0 (maxplus_product.l0 kq l1 x5_1 l0 (l0.length : Int) x21_1 = some r) ∧ Aside0 (kq ≤ k) ∧ Aside0 (Kd.S (Kd.slice 3 (Kd.int .i64)) 22 w' w.heap.size (fun _ => True) v138 x5_1) ∧ Aside0 (Below w.heap.size w w'))
  case atStart => exact ⟨(t137), (0), (by first | rfl | (simp; done) | (simp [*]; done)), H', ⟨Nat.le_refl _⟩, ⟨by (with_reducible repeat (first | apply Kd.S_alloc | apply Kd.S_drewN | apply Kd.S_drew)); exact HO139.out⟩, ⟨by repeat (first | (with_reducible first | exact HB.out | apply below_alloc | apply pw_below_drewN | apply below_drew1) | exact HB.out)⟩⟩
  case round =>
   clear H'
   try clear c1
   try clear p1
   try clear q1
   try clear hx1
   try clear qi1
   try clear p2
   try clear c3
   try clear c3b0
   try clear c3b1
   try clear c4
   try clear hx136_0
   try clear p136
   try clear q136
   obtain ⟨x5_1, x21_1, rfl, HA, HK1, HO_5, HB⟩ := hrel
   cases gk with
   | zero => exact absurd HA.out (by simp [maxplus_product.l0])
   | succ k1 =>
    have H := HA.out
    clear HA
    simp only [maxplus_product.l0] at H
    by_cases c6 : x21_1 < (l0.length : Int)
    ·rw [if_pos c6] at H
     have c6b0 : decide (x21_1 < (l0.length : Int)) = true := decide_eq_true c6
     clear c6
     by_cases c7 : 0 ≤ x21_1
     ·rw [if_pos c7] at H
      have c7b0 : decide (0 ≤ x21_1) = true := decide_eq_true c7
      clear c7
      by_cases c8 : x21_1 < (l0.length : Int)
      ·rw [if_pos c8] at H
       have c8b0 : decide (x21_1 < (l0.length : Int)) = true := decide_eq_true c8
       clear c8
       have H' := Aside0.mk H
       clear H
       have p140 : 0 ≤ (x21_1 : Int) := of_decide_eq_true (by first | (with_reducible assumption) | assumption)
       have q140 : x21_1 < (l0.length : Int) := of_decide_eq_true (by first | (with_reducible assumption) | assumption)
       obtain ⟨ad140, A140_0, c140_0, e140, hx140_0, hl140_0, hi140_0⟩ := at_L1 HR0.out x21_1 p140 q140
       cases e140
       replace hx140_0 := (HB.out.cell (World.block_lt_of_cell? w _ hx140_0)).trans hx140_0
       have HR140_0 := Aside0.mk hi140_0
       have HC140_0 := Aside0.mk hl140_0
       clear hi140_0 hl140_0
       replace p140 := eq_true p140
       replace q140 := eq_true q140
       go_wp2
       go_loopg [28] k1 (fun kq v28 w' => ∃ (x5_2 : List (List Int)) (x28_2 : Int), v28 = .int .i64 x28_2 ∧ Aside0 (maxplus_product.l1 kq l1 x5_2 x21_1 l0 (l0.length : Int) x21_1 (rd_L1 l0 x21_1) ((rd_L1 l0 x21_1).length : Int) x28_2 = some r) ∧ Aside0 (kq ≤ k1) ∧ Aside0 (Kd.S (Kd.slice 3 (Kd.int .i64)) 22 w' w.heap.size (fun _ => True) v138 x5_2) ∧ Aside0 (Below w.heap.size w w'))
       case atStart => exact ⟨(x5_1), (0), (by first | rfl | (simp; done) | (simp [*]; done)), H', ⟨Nat.le_refl _⟩, ⟨by (with_reducible repeat (first | apply Kd.S_alloc | apply Kd.S_drewN | apply Kd.S_drew)); exact HO_5.out⟩, ⟨by repeat (first | (with_reducible first | exact HB.out | apply below_alloc | apply pw_below_drewN | apply below_drew1) | exact HB.out)⟩⟩
       case round =>
        clear H'
        try clear c1
        try clear p1
        try clear q1
        try clear hx1
        try clear qi1
        try clear p2
        try clear c3
        try clear c3b0
        try clear c3b1
        try clear c4
        try clear c6
        try clear c6b0
        try clear c7
        try clear c7b0
        try clear c8
        try clear c8b0
        try clear hx136_0
        try clear hx140_0
        try clear p1
        try clear p136
        try clear p140
        try clear p2
        try clear q1
        try clear q136
        try clear q140
        obtain ⟨x5_2, x28_2, rfl, HA, HK2, HO_5, HB⟩ := hrel
        cases gk with
        | zero => exact absurd HA.out (by simp [maxplus_product.l1])
        | succ k2 =>
         have H := HA.out
         clear HA
         simp only [maxplus_product.l1] at H
         by_cases c9 : x28_2 < ((rd_L1 l0 x21_1).length : Int)
         ·rw [if_pos c9] at H
          have c9b0 : decide (x28_2 < ((rd_L1 l0 x21_1).length : Int)) = true := decide_eq_true c9
          clear c9
          by_cases c10 : 0 ≤ x28_2
          ·rw [if_pos c10] at H
           have c10b0 : decide (0 ≤ x28_2) = true := decide_eq_true c10
           clear c10
           by_cases c11 : x28_2 < ((rd_L1 l0 x21_1).length : Int)
           ·rw [if_pos c11] at H
            have c11b0 : decide (x28_2 < ((rd_L1 l0 x21_1).length : Int)) = true := decide_eq_true c11
            clear c11
            by_cases c12 : x28_2 < (l1.length : Int)
            ·rw [if_pos c12] at H
             have c12b0 : decide (x28_2 < (l1.length : Int)) = true := decide_eq_true c12
             clear c12
             have H' := Aside0.mk H
             clear H
             have p141 : 0 ≤ (x28_2 : Int) := of_decide_eq_true (by first | (with_reducible assumption) | assumption)
             have q141 : x28_2 < ((rd_L1 l0 x21_1).length : Int) := of_decide_eq_true (by first | (with_reducible assumption) | assumption)
             obtain ⟨ad141, e141, hx141_0⟩ := Kd.at_int HR140_0.out x28_2 p141 q141
             cases e141
             replace hx141_0 := (HB.out.cell (World.block_lt_of_cell? w _ hx141_0)).trans hx141_0
             replace p141 := eq_true p141
             replace q141 := eq_true q141
             have p142 : 0 ≤ (x28_2 : Int) := of_decide_eq_true (by first | (with_reducible assumption) | assumption)
             have q142 : x28_2 < (l1.length : Int) := of_decide_eq_true (by first | (with_reducible assumption) | assumption)
             obtain ⟨ad142, A142_0, c142_0, e142, hx142_0, hl142_0, hi142_0⟩ := at_L1 HR1.out x28_2 p142 q142
             obtain rfl : ad136 = ad142 := (by injection e142)
             replace hx142_0 := (HB.out.cell (World.block_lt_of_cell? w _ hx142_0)).trans hx142_0
             have HR142_0 := Aside0.mk hi142_0
             have HC142_0 := Aside0.mk hl142_0
             clear hi142_0 hl142_0
             replace p142 := eq_true p142
             replace q142 := eq_true q142
             go_wp2
             go_loopg [38] k2 (fun kq v38 w' => ∃ (x5_3 : List (List Int)) (x38_3 : Int), v38 = .int .i64 x38_3 ∧ Aside0 (maxplus_product.l2 kq l1 x5_3 x21_1 (rd (rd_L1 l0 x21_1) x28_2) l0 (l0.length : Int) x21_1 (rd_L1 l0 x21_1) ((rd_L1 l0 x21_1).length : Int) x28_2 (rd_L1 l1 x28_2) ((rd_L1 l1 x28_2).length : Int) x38_3 = some r) ∧ Aside0 (kq ≤ k2) ∧ Aside0 (Kd.S (Kd.slice 3 (Kd.int .i64)) 22 w' w.heap.size (fun _ => True) v138 x5_3) ∧ Aside0 (Below w.heap.size w w'))
             case atStart => exact ⟨(x5_2), (0), (by first | rfl | (simp; done) | (simp [*]; done)), H', ⟨Nat.le_refl _⟩, ⟨by (with_reducible repeat (first | apply Kd.S_alloc | apply Kd.S_drewN | apply Kd.S_drew)); exact HO_5.out⟩, ⟨by repeat (first | (with_reducible first | exact HB.out | apply below_alloc | apply pw_below_drewN | apply below_drew1) | exact HB.out)⟩⟩
             case round =>
              clear H'
              try clear c1
              try clear p1
              try clear q1
              try clear hx1
              try clear qi1
              try clear p2
              try clear c3
              try clear c3b0
              try clear c3b1
              try clear c4
              try clear c6
              try clear c6b0
              try clear c7
              try clear c7b0
              try clear c8
              try clear c8b0
              try clear c9
              try clear c9b0
              try clear c10
              try clear c10b0
              try clear c11
              try clear c11b0
              try clear c12
              try clear c12b0
              try clear hx136_0
              try clear hx140_0
              try clear hx141_0
              try clear hx142_0
              try clear p1
              try clear p136
              try clear p140
              try clear p141
              try clear p142
              try clear p2
              try clear q1
              try clear q136
              try clear q140
              try clear q141
              try clear q142
              obtain ⟨x5_3, x38_3, rfl, HA, HK3, HO_5, HB⟩ := hrel
              cases gk with
              | zero => exact absurd HA.out (by simp [maxplus_product.l2])
              | succ k3 =>
               have H := HA.out
               clear HA
               simp only [maxplus_product.l2] at H
               by_cases c13 : x38_3 < ((rd_L1 l1 x28_2).length : Int)
               ·rw [if_pos c13] at H
                have c13b0 : decide (x38_3 < ((rd_L1 l1 x28_2).length : Int)) = true := decide_eq_true c13
                clear c13
                by_cases c14 : 0 ≤ x38_3
                ·rw [if_pos c14] at H
                 have c14b0 : decide (0 ≤ x38_3) = true := decide_eq_true c14
                 clear c14
                 by_cases c15 : x38_3 < ((rd_L1 l1 x28_2).length : Int)
                 ·rw [if_pos c15] at H
                  have c15b0 : decide (x38_3 < ((rd_L1 l1 x28_2).length : Int)) = true := decide_eq_true c15
                  clear c15
                  by_cases c16 : 0 ≤ x21_1
                  ·rw [if_pos c16] at H
                   have c16b0 : decide (0 ≤ x21_1) = true := decide_eq_true c16
                   clear c16
                   by_cases c17 : x21_1 < (x5_3.length : Int)
                   ·rw [if_pos c17] at H
                    have c17b0 : decide (x21_1 < (x5_3.length : Int)) = true := decide_eq_true c17
                    clear c17
                    by_cases c18 : x38_3 < ((rd_L1 x5_3 x21_1).length : Int)
                    ·rw [if_pos c18] at H
                     have c18b0 : decide (x38_3 < ((rd_L1 x5_3 x21_1).length : Int)) = true := decide_eq_true c18
                     clear c18
                     replace H := Option.bind_eq_some_iff.mp H
                     obtain ⟨t147, A190, H⟩ := H
                     replace H : (maxplus_product.l2 k3 l1 (x5_3.set (x21_1 : Int).toNat ((rd_L1 x5_3 x21_1).set (x38_3 : Int).toNat (mx (rd (rd_L1 x5_3 x21_1) x38_3) t147))) x21_1 (rd (rd_L1 l0 x21_1) x28_2) l0 (l0.length : Int) x21_1 (rd_L1 l0 x21_1) ((rd_L1 l0 x21_1).length : Int) x28_2 (rd_L1 l1 x28_2) ((rd_L1 l1 x28_2).length : Int) (wrap64 (x38_3 + 1))) = some r := H
                     have A19 := Aside0.mk A190
                     clear A190
                     obtain ⟨ji20, hji20⟩ : ∃ j_ : Int, (mx (rd (rd_L1 x5_3 x21_1) x38_3) t147) = j_ := ⟨_, rfl⟩
                     replace H : (maxplus_product.l2 k3 l1 (x5_3.set (x21_1 : Int).toNat ((rd_L1 x5_3 x21_1).set (x38_3 : Int).toNat (ji20))) x21_1 (rd (rd_L1 l0 x21_1) x28_2) l0 (l0.length : Int) x21_1 (rd_L1 l0 x21_1) ((rd_L1 l0 x21_1).length : Int) x28_2 (rd_L1 l1 x28_2) ((rd_L1 l1 x28_2).length : Int) (wrap64 (x38_3 + 1))) = some r := by first | (rw [hji20] at H; exact H) | (simp only [hji20] at H ⊢; exact H)
                     (try rw [hji20] at A19)
                     have hji20_ : (if (rd (rd_L1 x5_3 x21_1) x38_3) < t147 then t147 else (rd (rd_L1 x5_3 x21_1) x38_3)) = ji20 := hji20
                     obtain ⟨y148, hy148⟩ : ∃ y_ : List Int, y_ = ((rd_L1 x5_3 x21_1).set (x38_3 : Int).toNat (ji20)) := ⟨_, rfl⟩
                     replace H : (maxplus_product.l2 k3 l1 (x5_3.set (x21_1 : Int).toNat y148) x21_1 (rd (rd_L1 l0 x21_1) x28_2) l0 (l0.length : Int) x21_1 (rd_L1 l0 x21_1) ((rd_L1 l0 x21_1).length : Int) x28_2 (rd_L1 l1 x28_2) ((rd_L1 l1 x28_2).length : Int) (wrap64 (x38_3 + 1))) = some r := by first | (rw [hy148]; with_reducible exact H) | (have H2_ := (Option.bind_some _ _).symm.trans H; rw [hy148]; with_reducible exact H2_) | (have H2_ := (Option.bind_some _ _).symm.trans H; with_reducible exact H2_) | with_reducible exact H | (rw [hy148]; exact H) | exact H
                     have Ny148 := Aside0.mk hy148
                     clear hy148
                     obtain ⟨y150, hy150⟩ : ∃ y_ : List (List Int), y_ = (x5_3.set (x21_1 : Int).toNat y148) := ⟨_, rfl⟩
                     replace H : (maxplus_product.l2 k3 l1 y150 x21_1 (rd (rd_L1 l0 x21_1) x28_2) l0 (l0.length : Int) x21_1 (rd_L1 l0 x21_1) ((rd_L1 l0 x21_1).length : Int) x28_2 (rd_L1 l1 x28_2) ((rd_L1 l1 x28_2).length : Int) (wrap64 (x38_3 + 1))) = some r := by first | (rw [hy150]; with_reducible exact H) | (have H2_ := (Option.bind_some _ _).symm.trans H; rw [hy150]; with_reducible exact H2_) | (have H2_ := (Option.bind_some _ _).symm.trans H; with_reducible exact H2_) | with_reducible exact H | (rw [hy150]; exact H) | exact H
                     have Ny150 := Aside0.mk hy150
                     clear hy150
                     have H' := Aside0.mk H
                     clear H
                     have p143 : 0 ≤ (x38_3 : Int) := of_decide_eq_true (by first | (with_reducible assumption) | assumption)
                     have q143 : x38_3 < ((rd_L1 l1 x28_2).length : Int) := of_decide_eq_true (by first | (with_reducible assumption) | assumption)
                     obtain ⟨ad143, e143, hx143_0⟩ := Kd.at_int HR142_0.out x38_3 p143 q143
                     cases e143
                     replace hx143_0 := (HB.out.cell (World.block_lt_of_cell? w _ hx143_0)).trans hx143_0
                     replace p143 := eq_true p143
                     replace q143 := eq_true q143
                     try go_wp2
                     have n0_ := Aside0.mk (Kd.S_drew HO_5.out)
                     have n1_ := Aside0.mk (below_drew1 HB.out)
                     clear HO_5
                     clear HB
                     have HO_5 := n0_
                     have HB := n1_
                     clear n0_ n1_
                     obtain ⟨Ao23, co23, eo23⟩ := Kd.S_slice HO_5.out
                     (first | subst eo23 | (injection eo23 with f1_ f2_ f3_; have f4_ := f1_.symm; have f5_ := f3_.symm; clear f1_ f2_ f3_; subst f4_; subst f5_))
                     have p144 : 0 ≤ (x21_1 : Int) := of_decide_eq_true (by first | (with_reducible assumption) | assumption)
                     have q144 : x21_1 < (x5_3.length : Int) := of_decide_eq_true (by first | (with_reducible assumption) | assumption)
                     obtain ⟨ad144, A144_0, c144_0, e144, hx144_0, hl144_0, hi144_0⟩ := at_L1 (Kd.S_reads' HO_5.out).2.2 x21_1 p144 q144
                     cases e144
                     obtain ⟨ce144, hce144, hMe144, hcc144⟩ := Kd.S_get HO_5.out [] x21_1 p144 (by first | exact q144 | exact of_decide_eq_true (by first | (with_reducible assumption) | assumption) | (have e_ := (Kd.S_reads' HO_5.out).1; omega))
                     obtain ⟨ve144_0, rfl, ge144_0⟩ := hMe144
                     have hv144_0 := hcc144 0 _ rfl
                     rw [Nat.add_zero, show ((Kd.slice 3 (Kd.int .i64))).sz = 1 from rfl, Nat.mul_one] at hv144_0
                     replace hv144_0 := Option.some.inj (hv144_0.symm.trans hx144_0)
                     rw [hv144_0] at ge144_0
                     have HL144_0 := Aside0.mk (show Kd.R (Kd.int .i64) 3 _ _ _ _ (rd_L1 x5_3 x21_1) from ge144_0)
                     clear hv144_0 ge144_0
                     have HX144_0 := Aside0.mk hx144_0
                     clear hcc144 hce144
                     have HR144_0 := Aside0.mk hi144_0
                     have HC144_0 := Aside0.mk hl144_0
                     clear hi144_0 hl144_0
                     replace p144 := eq_true p144
                     replace q144 := eq_true q144
                     have p145 : 0 ≤ (x21_1 : Int) := of_decide_eq_true (by first | (with_reducible assumption) | assumption)
                     have q145 : x21_1 < (x5_3.length : Int) := of_decide_eq_true (by first | (with_reducible assumption) | assumption)
                     obtain ⟨ad145, A145_0, c145_0, e145, hx145_0, hl145_0, hi145_0⟩ := at_L1 (Kd.S_reads' HO_5.out).2.2 x21_1 p145 q145
                     obtain rfl : ad144 = ad145 := (by injection e145)
                     obtain ⟨ce145, hce145, hMe145, hcc145⟩ := Kd.S_get HO_5.out [] x21_1 p145 (by first | exact q145 | exact of_decide_eq_true (by first | (with_reducible assumption) | assumption) | (have e_ := (Kd.S_reads' HO_5.out).1; omega))
                     obtain ⟨ve145_0, rfl, ge145_0⟩ := hMe145
                     have hv145_0 := hcc145 0 _ rfl
                     rw [Nat.add_zero, show ((Kd.slice 3 (Kd.int .i64))).sz = 1 from rfl, Nat.mul_one] at hv145_0
                     replace hv145_0 := Option.some.inj (hv145_0.symm.trans hx145_0)
                     rw [hv145_0] at ge145_0
                     have HL145_0 := Aside0.mk (show Kd.R (Kd.int .i64) 3 _ _ _ _ (rd_L1 x5_3 x21_1) from ge145_0)
                     clear hv145_0 ge145_0
                     have HX145_0 := Aside0.mk hx145_0
                     clear hcc145 hce145
                     have HR145_0 := Aside0.mk hi145_0
                     have HC145_0 := Aside0.mk hl145_0
                     clear hi145_0 hl145_0
                     replace p145 := eq_true p145
                     replace q145 := eq_true q145
                     have ea_ := Option.some.inj (hx144_0.symm.trans hx145_0)
                     injection ea_ with ea_ en_ ec_
                     subst ea_
                     subst ec_
                     clear en_
                     have p146 : 0 ≤ (x38_3 : Int) := of_decide_eq_true (by first | (with_reducible assumption) | assumption)
                     have q146 : x38_3 < ((rd_L1 x5_3 x21_1).length : Int) := of_decide_eq_true (by first | (with_reducible assumption) | assumption)
                     obtain ⟨ad146, e146, hx146_0⟩ := Kd.at_int (by repeat (first | (with_reducible exact HR145_0.out) | (with_reducible refine Kd.C_alloc ?_ _) | (with_reducible refine Kd.C_drewN ?_ _) | (with_reducible refine Kd.C_drew ?_) | exact HR145_0.out)) x38_3 p146 q146
                     cases e146
                     replace p146 := eq_true p146
                     replace q146 := eq_true q146
                     refine start_ (n := 18) (S := fun w' => w'.cell? (ad144.add (x21_1).toNat) = some (.slice (some ad146) (rd_L1 x5_3 x21_1).length c144_0) ∧ w'.cell? (ad144.add (x21_1).toNat) = some (.slice (some ad146) (rd_L1 x5_3 x21_1).length c144_0) ∧ w'.cell? (ad146.add (x38_3).toNat) = some (.int .i64 (rd (rd_L1 x5_3 x21_1) x38_3))) (ds := [17]) #[false, false, false, false, false, false, false, false, false, false, false, false, false, false, false, false, false, false] (by kernel_rfl) rfl rfl ⟨hx144_0, hx145_0, hx146_0⟩ (fun hHeld => ?_); refine with_tabW maxplus_product.tab11 maxplus_product.bits11 (fun HT_ HW_ => ?_)
                     generalize wr.drew = w22 at HO_5 HB HL144_0 HL145_0 HR144_0 HR145_0 HX144_0 HX145_0 hx144_0 hx145_0 hx146_0 hHeld ⊢
                     refine pure_ (i := 0) (N := some 43) (v := ?_) (a' := ?_) #[true, false, false, false, false, false, false, false, false, false, false, false, false, false, false, false, false, false] rfl rfl (any_of HT_.out (by kernel_rfl)) (fun _ _ _ h => h) (Or.inl ⟨by rfl, ?_⟩) ?_ ?_
                     rotate_left
                     ·intro w'
                      go_simp
                      with_reducible rfl
                     rotate_left
                     ·simp only [Act.put, List.setIfInBounds_toArray, List.set_cons_zero, List.set_cons_succ, i64_w, i32_w]
                      rfl
                     refine pure_ (i := 1) (N := some 44) (v := ?_) (a' := ?_) #[true, true, false, false, false, false, false, false, false, false, false, false, false, false, false, false, false, false] rfl rfl (any_of HT_.out (by kernel_rfl)) (fun _ _ _ h => h) (Or.inl ⟨by rfl, ?_⟩) ?_ ?_
                     rotate_left
                     ·intro w'
                      go_simp
                      with_reducible rfl
                     rotate_left
                     ·simp only [Act.put, List.setIfInBounds_toArray, List.set_cons_zero, List.set_cons_succ, i64_w, i32_w]
                      rfl
                     refine pure_ (i := 2) (N := some 45) (v := ?_) (a' := ?_) #[true, true, true, false, false, false, false, false, false, false, false, false, false, false, false, false, false, false] rfl rfl (any_of HT_.out (by kernel_rfl)) (fun _ _ _ h => h) (Or.inl ⟨by rfl, ?_⟩) ?_ ?_
                     rotate_left
                     ·intro w'
                      go_simp
                      with_reducible rfl
                     rotate_left
                     ·simp only [Act.put, List.setIfInBounds_toArray, List.set_cons_zero, List.set_cons_succ, i64_w, i32_w]
                      rfl
                     refine pure_ (i := 4) (N := some 47) (v := ?_) (a' := ?_) #[true, true, true, false, true, false, false, false, false, false, false, false, false, false, false, false, false, false] rfl rfl (any_of HT_.out (by kernel_rfl)) (fun _ _ _ h => h) (Or.inl ⟨by rfl, ?_⟩) ?_ ?_
                     rotate_left
                     ·intro w'
                      go_simp
                      with_reducible rfl
                     rotate_left
                     ·simp only [Act.put, List.setIfInBounds_toArray, List.set_cons_zero, List.set_cons_succ, i64_w, i32_w]
                      rfl
                     refine pure_ (i := 5) (N := some 48) (v := ?_) (a' := ?_) #[true, true, true, false, true, true, false, false, false, false, false, false, false, false, false, false, false, false] rfl rfl (any_of HT_.out (by kernel_rfl)) (fun _ _ _ h => h) (Or.inl ⟨by rfl, ?_⟩) ?_ ?_
                     rotate_left
                     ·intro w'
                      go_simp
                      with_reducible rfl
                     rotate_left
                     ·simp only [Act.put, List.setIfInBounds_toArray, List.set_cons_zero, List.set_cons_succ, i64_w, i32_w]
                      rfl
                     refine pure_ (i := 6) (N := some 49) (v := ?_) (a' := ?_) #[true, true, true, false, true, true, true, false, false, false, false, false, false, false, false, false, false, false] rfl rfl (any_of HT_.out (by kernel_rfl)) (fun _ _ _ h => h) (Or.inl ⟨by rfl, ?_⟩) ?_ ?_
                     rotate_left
                     ·intro w'
                      go_simp
                      with_reducible rfl
                     rotate_left
                     ·simp only [Act.put, List.setIfInBounds_toArray, List.set_cons_zero, List.set_cons_succ, i64_w, i32_w]
                      rfl
                     refine pure_ (i := 7) (N := some 50) (v := ?_) (a' := ?_) #[true, true, true, false, true, true, true, true, false, false, false, false, false, false, false, false, false, false] rfl rfl (any_of HT_.out (by kernel_rfl)) (fun _ _ _ h => h) (Or.inl ⟨by rfl, ?_⟩) ?_ ?_
                     rotate_left
                     ·intro w'
                      go_simp
                      with_reducible rfl
                     rotate_left
                     ·simp only [Act.put, List.setIfInBounds_toArray, List.set_cons_zero, List.set_cons_succ, i64_w, i32_w]
                      rfl
                     refine pure_ (i := 9) (N := some 52) (v := ?_) (a' := ?_) #[true, true, true, false, true, true, true, true, false, true, false, false, false, false, false, false, false, false] rfl rfl (any_of HT_.out (by kernel_rfl)) (fun _ _ _ h => h) (Or.inl ⟨by rfl, ?_⟩) ?_ ?_
                     rotate_left
                     ·intro w'
                      go_simp
                      with_reducible rfl
                     rotate_left
                     ·simp only [Act.put, List.setIfInBounds_toArray, List.set_cons_zero, List.set_cons_succ, i64_w, i32_w]
                      rfl
                     refine pure_ (i := 12) (N := some 55) (v := ?_) (a' := ?_) #[true, true, true, false, true, true, true, true, false, true, false, false, true, false, false, false, false, false] rfl rfl (any_of HT_.out (by kernel_rfl)) (fun _ _ _ h => h) (Or.inl ⟨by rfl, ?_⟩) ?_ ?_
                     rotate_left
                     ·intro w'
                      go_simp
                      with_reducible rfl
                     rotate_left
                     ·simp only [Act.put, List.setIfInBounds_toArray, List.set_cons_zero, List.set_cons_succ, i64_w, i32_w]
                      rfl
                     refine pure_ (i := 13) (N := some 56) (v := ?_) (a' := ?_) #[true, true, true, false, true, true, true, true, false, true, false, false, true, true, false, false, false, false] rfl rfl (any_of HT_.out (by kernel_rfl)) (fun _ _ _ h => h) (Or.inl ⟨by rfl, ?_⟩) ?_ ?_
                     rotate_left
                     ·intro w'
                      go_simp
                      with_reducible rfl
                     rotate_left
                     ·simp only [Act.put, List.setIfInBounds_toArray, List.set_cons_zero, List.set_cons_succ, i64_w, i32_w]
                      rfl
                     refine take_ (i := 3) (N := some 46) (v := ?_) (a' := ?_) #[true, true, true, true, true, true, true, true, false, true, false, false, true, true, false, false, false, false] rfl rfl (take_ofW HT_.out HW_.out (by kernel_rfl)) (fun _ _ _ h => h) (Or.inl ⟨by rfl, ?_⟩) hHeld ?_ ?_
                     rotate_left
                     ·rintro w' ⟨s0, s1, s2⟩
                      go_simp
                      with_reducible rfl
                     rotate_left
                     ·simp only [Act.put, List.setIfInBounds_toArray, List.set_cons_zero, List.set_cons_succ, i64_w, i32_w]
                      rfl
                     refine take_ (i := 8) (N := some 51) (v := ?_) (a' := ?_) #[true, true, true, true, true, true, true, true, true, true, false, false, true, true, false, false, false, false] rfl rfl (take_ofW HT_.out HW_.out (by kernel_rfl)) (fun _ _ _ h => h) (Or.inl ⟨by rfl, ?_⟩) hHeld ?_ ?_
                     rotate_left
                     ·rintro w' ⟨s0, s1, s2⟩
                      go_simp
                      with_reducible rfl
                     rotate_left
                     ·simp only [Act.put, List.setIfInBounds_toArray, List.set_cons_zero, List.set_cons_succ, i64_w, i32_w]
                      rfl
                     refine pure_ (i := 10) (N := some 53) (v := ?_) (a' := ?_) #[true, true, true, true, true, true, true, true, true, true, true, false, true, true, false, false, false, false] rfl rfl (any_of HT_.out (by kernel_rfl)) (fun _ _ _ h => h) (Or.inl ⟨by rfl, ?_⟩) ?_ ?_
                     rotate_left
                     ·intro w'
                      go_simp
                      with_reducible rfl
                     rotate_left
                     ·simp only [Act.put, List.setIfInBounds_toArray, List.set_cons_zero, List.set_cons_succ, i64_w, i32_w]
                      rfl
                     refine take_ (i := 11) (N := some 54) (v := ?_) (a' := ?_) #[true, true, true, true, true, true, true, true, true, true, true, true, true, true, false, false, false, false] rfl rfl (take_ofW HT_.out HW_.out (by kernel_rfl)) (fun _ _ _ h => h) (Or.inl ⟨by rfl, ?_⟩) hHeld ?_ ?_
                     rotate_left
                     ·rintro w' ⟨s0, s1, s2⟩
                      go_simp
                      with_reducible rfl
                     rotate_left
                     ·simp only [Act.put, List.setIfInBounds_toArray, List.set_cons_zero, List.set_cons_succ, i64_w, i32_w]
                      rfl
                     refine one_ (i := 14) (N := some 57) #[true, true, true, true, true, true, true, true, true, true, true, true, true, true, true, false, false, false] rfl rfl (one_of HT_.out (by kernel_rfl)) (by decide) (fun K hK => ?_)
                     refine goes_ Try.func54 (by kernel_rfl) rfl #[.int .i64 (rd (rd_L1 l0 x21_1) x28_2), .int .i64 (rd (rd_L1 l1 x28_2) x38_3)] (by rfl) rfl rfl (by (try simp only [List.map_toArray, List.map_cons, List.map_nil]); first | done | rfl | (simp only [List.length_drop, List.length_take]; rfl)) ?_
                     with_reducible refine (maxplus_sum.calls (rd (rd_L1 l0 x21_1) x28_2) (rd (rd_L1 l1 x28_2) x38_3) t147 _ A19.out).mono ?_
                     rintro e w' ⟨rfl, ⟨nd, rfl⟩⟩
                     refine ⟨_, rfl, ?_⟩
                     have p21 : 0 ≤ (x38_3 : Int) := of_decide_eq_true (by first | (with_reducible assumption) | assumption)
                     have q21 : (x38_3 : Int) < (((rd_L1 x5_3 x21_1).length : Int) : Int) := of_decide_eq_true (by first | (with_reducible assumption) | assumption)
                     obtain ⟨go21, co21, eo21, gb21, gl21, cl21, HG21⟩ := Kd.R_form HL144_0.out (by omega)
                     (first | cases eo21 | (injection eo21 with ea_ en_ ec_; (first | subst ea_ | (injection ea_ with ea_; subst ea_)); subst ec_; clear en_))
                     have GB21 := Aside0.mk gb21
                     have GG21 := Aside0.mk HG21
                     clear gb21 gl21 HG21
                     (first | simp only [add_plain] at hx146_0 | skip)
                     obtain ⟨hx21_0, hf21_0⟩ := Kd.R_celln 0 HL144_0.out (x38_3 : Int) p21 q21
                     replace p21 := eq_true p21
                     replace q21 := eq_true q21
                     have hq24 : (x21_1 : Int) < (x5_3.length : Int) := (by have h_ : (x21_1 : Int) < ((x5_3.length : Int) : Int) := of_decide_eq_true (by first | (with_reducible assumption) | assumption); first | exact h_ | (have e_ := (Kd.S_reads' HO_5.out).1; omega) | simpa only [List.length_set, List.length_set] using h_)
                     obtain ⟨oki24, ce24, hcl24, hM24, hcc24, hok24, hbk24⟩ := Kd.S_borrow HO_5.out [] (x21_1 : Int) (of_decide_eq_true (by first | (with_reducible assumption) | assumption)) hq24
                     obtain ⟨ve24_0, rfl, ge24_0⟩ := hM24
                     have hv24 := hcc24 0 _ rfl
                     rw [Nat.add_zero, show ((Kd.slice 3 (Kd.int .i64))).sz = 1 from rfl, Nat.mul_one] at hv24
                     replace hv24 := Option.some.inj (hv24.symm.trans HX144_0.out)
                     subst hv24
                     clear hcc24 hcl24
                     replace ge24_0 := (show Kd.R (Kd.int .i64) 3 _ _ _ _ (rd_L1 x5_3 x21_1) from ge24_0)
                     have HP24 := Kd.R_putg ge24_0 (x38_3 : Int) ji20
                     rw [← Ny148.out] at HP24
                     have HS24 := hbk24 HP24.2 (fun k_ e_ => by injection e_ with e_; subst e_; exact ge24_0.1 _ rfl) (x' := y148) (Kd.M_row HP24.1)
                     rw [← Ny150.out] at HS24
                     have HQ24 := Aside0.mk HS24
                     clear HP24 HS24 hbk24 hok24
                     refine hK.out _ _ ⟨hHeld.1, hHeld.2.1, hHeld.2.2⟩ (fun hHeld => ?_)
                     clear hK K
                     refine norm_ (a' := ?_) ?_ ?_
                     rotate_left
                     ·show Act.put _ (some 57) _ = _
                      simp only [Act.put, List.setIfInBounds_toArray, List.set_cons_zero, List.set_cons_succ, i64_w, i32_w]
                      rfl
                     refine pure_ (i := 15) (N := some 58) (v := ?_) (a' := ?_) #[true, true, true, true, true, true, true, true, true, true, true, true, true, true, true, true, false, false] rfl rfl (any_of HT_.out (by kernel_rfl)) (fun _ _ _ h => h) (Or.inl ⟨by rfl, ?_⟩) ?_ ?_
                     rotate_left
                     ·intro w'
                      go_simp
                      with_reducible rfl
                     rotate_left
                     ·simp only [Act.put, List.setIfInBounds_toArray, List.set_cons_zero, List.set_cons_succ, i64_w, i32_w]
                      rfl
                     refine pure_ (i := 16) (N := some 59) (v := ?_) (a' := ?_) #[true, true, true, true, true, true, true, true, true, true, true, true, true, true, true, true, true, false] rfl rfl (any_of HT_.out (by kernel_rfl)) (fun _ _ _ h => h) (Or.inl ⟨by rfl, ?_⟩) ?_ ?_
                     rotate_left
                     ·intro w'
                      go_simp
                      with_reducible rfl
                     rotate_left
                     ·simp only [Act.put, List.setIfInBounds_toArray, List.set_cons_zero, List.set_cons_succ, i64_w, i32_w]
                      rfl
                     refine last_ (i := 17) (N := none) #[true, true, true, true, true, true, true, true, true, true, true, true, true, true, true, true, true, true] rfl rfl (one_of HT_.out (by kernel_rfl)) (by decide) (fun K hK => ?_)
                     refine skip_ (w1 := ?_) (by rfl) rfl ?_ ?_
                     rotate_left
                     ·go_simp
                      rfl
                     refine hK.out _ _ ?_
                     clear hK K
                     refine done_ (done_of HT_.out (by kernel_rfl)) ?_
                     try go_wp2
                     go_roundg k3
                     case measure => have := HK1.out; have := HK2.out; have := HK3.out; omega
                     case rel => exact ⟨(y150), (wrap64 (x38_3 + 1)), (by first | rfl | (simp; done) | (simp [*]; done)), H', ⟨by have := HK1.out; have := HK2.out; have := HK3.out; omega⟩, ⟨by (with_reducible repeat (first | apply Kd.S_alloc | apply Kd.S_drewN | apply Kd.S_drew)); exact HQ24.out⟩, ⟨by repeat (first | (with_reducible first | exact HB.out | apply below_alloc | apply pw_below_drewN | apply below_drew1 | refine below_set ?_ GB21.out) | exact HB.out)⟩⟩
                    ·rw [if_neg c18] at H
                     exact absurd H (by simp)
                   ·rw [if_neg c17] at H
                    exact absurd H (by simp)
                  ·rw [if_neg c16] at H
                   exact absurd H (by simp)
                 ·rw [if_neg c15] at H
                  exact absurd H (by simp)
                ·rw [if_neg c14] at H
                 exact absurd H (by simp)
               ·rw [if_neg c13] at H
                have c13b0 : decide (x38_3 < ((rd_L1 l1 x28_2).length : Int)) = false := decide_eq_false c13
                clear c13
                have H' := Aside0.mk H
                clear H
                go_wp2
                go_roundg k3
                case measure => have := HK1.out; have := HK2.out; have := HK3.out; omega
                case rel => exact ⟨(x5_3), (wrap64 (x28_2 + 1)), (by first | rfl | (simp; done) | (simp [*]; done)), H', ⟨by have := HK1.out; have := HK2.out; have := HK3.out; omega⟩, ⟨by (with_reducible repeat (first | apply Kd.S_alloc | apply Kd.S_drewN | apply Kd.S_drew)); exact HO_5.out⟩, ⟨by repeat (first | (with_reducible first | exact HB.out | apply below_alloc | apply pw_below_drewN | apply below_drew1) | exact HB.out)⟩⟩
            ·rw [if_neg c12] at H
             exact absurd H (by simp)
           ·rw [if_neg c11] at H
            exact absurd H (by simp)
          ·rw [if_neg c10] at H
           exact absurd H (by simp)
         ·rw [if_neg c9] at H
          have c9b0 : decide (x28_2 < ((rd_L1 l0 x21_1).length : Int)) = false := decide_eq_false c9
          clear c9
          have H' := Aside0.mk H
          clear H
          go_wp2
          go_roundg k2
          case measure => have := HK1.out; have := HK2.out; omega
          case rel => exact ⟨(x5_2), (wrap64 (x21_1 + 1)), (by first | rfl | (simp; done) | (simp [*]; done)), H', ⟨by have := HK1.out; have := HK2.out; omega⟩, ⟨by (with_reducible repeat (first | apply Kd.S_alloc | apply Kd.S_drewN | apply Kd.S_drew)); exact HO_5.out⟩, ⟨by repeat (first | (with_reducible first | exact HB.out | apply below_alloc | apply pw_below_drewN | apply below_drew1) | exact HB.out)⟩⟩
      ·rw [if_neg c8] at H
       exact absurd H (by simp)
     ·rw [if_neg c7] at H
      exact absurd H (by simp)
    ·rw [if_neg c6] at H
     have c6b0 : decide (x21_1 < (l0.length : Int)) = false := decide_eq_false c6
     clear c6
     obtain rfl := Option.some.inj H
     go_wp2
     go_ret
     exact ⟨_, by first | rfl | (simp [errW_none, errW_some] <;> rfl) | (simp [*, errW_none, errW_some] <;> rfl), by (with_reducible repeat (first | apply Kd.S_alloc | apply Kd.S_drewN | apply Kd.S_drew)); exact HO_5.out, by repeat (first | (with_reducible first | exact HB.out | apply below_alloc | apply pw_below_drewN | apply below_drew1) | exact HB.out)⟩
 ·rw [if_neg c3] at H
  exact absurd H (by simp)

end Go.Proofs.Ytnmhdeibjglhcaa.XAll
