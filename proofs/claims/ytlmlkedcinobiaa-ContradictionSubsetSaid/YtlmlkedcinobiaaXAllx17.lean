-- This session's own text, written by wip/tools/xall.py after the form of the kit's print.
import Derived.Test.YtlmlkedcinobiaaXAllx0
import Derived.Test.YtlmlkedcinobiaaXAllx3
import Derived.Test.YtlmlkedcinobiaaXAllx5
namespace Go.Proofs.Ytlmlkedcinobiaa.XAll
open Go.RowKit Go.Proofs.YtlmlkedcinobiaaW.PrintWords Go.Proofs.YtlmlkedcinobiaaW.PrintLast Go.Proofs.YtlmlkedcinobiaaW.PrintMore
attribute [local go_sem] max2_int min2_int max_two min_two max_three min_three max_four min_four   -- for this text's walks alone
set_option linter.unusedVariables false
set_option linter.unusedSimpArgs false

/-! ### railplankeep_Times: function 15 -/
def railplankeep_Times.l0 : Nat → List Int → Int → Int → Int → List (S34) → List (S36) → List Int → Int → Option (List Int)
 | 0, _, _, _, _, _, _, _, _ => none
 | k + 1, x6, x15, x16, x166000, x166001, x166002, x169000, x169001 => if x16 < x15 then ((railplankeep_Source_Next.f x169000 x169001 x166000).bind fun bt172 => (if 0 ≤ x16 then (if x16 < (x6.length : Int) then (railplankeep_Times.l0 k (x6.set (x16 : Int).toNat bt172.1) x15 (wrap64 (x16 + 1)) x166000 x166001 x166002 x169000 bt172.2) else (none)) else (none))) else (some x6)
def railplankeep_Times.f (k : Nat) (a0_0 : Int) (l0_1 : List (S34)) (l0_2 : List (S36)) (l1 : List Int) : Option (List Int) := (railplankeep_From.f l1).bind fun bt166 => (if 0 ≤ (l0_1.length : Int) then (if ((l0_1.length : Int) : Int).toNat ≤ 35184372088832 then ((some (List.replicate ((l0_1.length : Int) : Int).toNat 0 : List Int)).bind fun y169 => (railplankeep_Times.l0 k y169 (y169.length : Int) 0 a0_0 l0_1 l0_2 bt166.1 bt166.2)) else (none)) else (none))
theorem railplankeep_Times.mono_l : ∀ k, (∀ y0 y1 y2 y3 y4 y5 y6 y7, LeO (railplankeep_Times.l0 k y0 y1 y2 y3 y4 y5 y6 y7) (railplankeep_Times.l0 (k + 1) y0 y1 y2 y3 y4 y5 y6 y7))
 | 0 => fun _ _ _ _ _ _ _ _ r h => by simp [railplankeep_Times.l0] at h
 | k + 1 => by
  have ih0 := railplankeep_Times.mono_l k
  ·intro y0 y1 y2 y3 y4 y5 y6 y7
   unfold railplankeep_Times.l0
   repeat' first
   | (with_reducible exact ih0 _ _ _ _ _ _ _ _)
   | (with_reducible exact LeO.refl _)
   | (with_reducible exact LeO.none _)
   | (with_reducible refine LeO.ite ?_ ?_)
   | (with_reducible refine LeO.bind ?_ (fun _ => ?_))
   | exact ih0 _ _ _ _ _ _ _ _
   | exact LeO.none _
   | refine LeO.ite ?_ ?_
   | refine LeO.bind ?_ (fun _ => ?_)
theorem railplankeep_Times.mono : ∀ a0 a1 a2 a3 k, LeO (railplankeep_Times.f k a0 a1 a2 a3) (railplankeep_Times.f (k + 1) a0 a1 a2 a3) := by
 intro a0 a1 a2 a3 k
 have ih0 := railplankeep_Times.mono_l k
 unfold railplankeep_Times.f
 repeat' first
   | (with_reducible exact ih0 _ _ _ _ _ _ _ _)
   | (with_reducible exact LeO.refl _)
   | (with_reducible exact LeO.none _)
   | (with_reducible refine LeO.ite ?_ ?_)
   | (with_reducible refine LeO.bind ?_ (fun _ => ?_))
   | exact ih0 _ _ _ _ _ _ _ _
   | exact LeO.none _
   | refine LeO.ite ?_ ?_
   | refine LeO.bind ?_ (fun _ => ?_)
set_option maxHeartbeats 8000000 in
set_option maxRecDepth 100000 in
theorem railplankeep_Times.calls (k : Nat) (a0_0 : Int) (A0_1 : Option Addr) (c0_1 : Nat) (l0_1 : List (S34)) (A0_2 : Option Addr) (c0_2 : Nat) (l0_2 : List (S36)) (A1 : Option Addr) (c1 : Nat) (l1 : List Int) (r : List Int) (w : World) (hr0_1 : Kd.C k34 w A0_1 l0_1.length l0_1) (hc0_1 : l0_1.length ≤ c0_1) (hr0_2 : Kd.C k36 w A0_2 l0_2.length l0_2) (hc0_2 : l0_2.length ≤ c0_2) (hr1 : Kd.C (Kd.int .i64) w A1 l1.length l1) (hc1 : l1.length ≤ c1) (h : railplankeep_Times.f k a0_0 l0_1 l0_2 l1 = some r) :
  Calls Try.prog 15 #[.agg #[.int .i64 a0_0, .slice A0_1 l0_1.length c0_1, .slice A0_2 l0_2.length c0_2], .slice A1 l1.length c1] w fun e w' => ∃ v0_ : Value, e = .returned (v0_) ∧ Kd.R (Kd.int .i64) 3 w' w.heap.size (fun _ => True) v0_ r ∧ Below w.heap.size w w' := by
 have hu26 := Try.underlying26
 have HR0_1 := Aside0.mk hr0_1
 have HC0_1 := Aside0.mk hc0_1
 clear hr0_1 hc0_1
 have HR0_2 := Aside0.mk hr0_2
 have HC0_2 := Aside0.mk hc0_2
 clear hr0_2 hc0_2
 have HR1 := Aside0.mk hr1
 have HC1 := Aside0.mk hc1
 clear hr1 hc1
 have HB := Aside0.mk (Below.refl w.heap.size w)
 have H : ((railplankeep_From.f l1).bind fun bt166 => (if 0 ≤ (l0_1.length : Int) then (if ((l0_1.length : Int) : Int).toNat ≤ 35184372088832 then ((some (List.replicate ((l0_1.length : Int) : Int).toNat 0 : List Int)).bind fun y169 => (railplankeep_Times.l0 k y169 (y169.length : Int) 0 a0_0 l0_1 l0_2 bt166.1 bt166.2)) else (none)) else (none))) = some r := h
 clear h
 replace H := Option.bind_eq_some_iff.mp H
 obtain ⟨⟨t166, t167⟩, A30, H⟩ := H
 replace H : (if 0 ≤ (l0_1.length : Int) then (if ((l0_1.length : Int) : Int).toNat ≤ 35184372088832 then ((some (List.replicate ((l0_1.length : Int) : Int).toNat 0 : List Int)).bind fun y169 => (railplankeep_Times.l0 k y169 (y169.length : Int) 0 a0_0 l0_1 l0_2 t166 t167)) else (none)) else (none)) = some r := H
 have A3 := Aside0.mk A30
 clear A30
 by_cases c4 : 0 ≤ (l0_1.length : Int)
 ·rw [if_pos c4] at H
  have c4b0 := eq_true c4
  have c4b1 : decide (0 ≤ (l0_1.length : Int)) = true := decide_eq_true c4
  clear c4
  by_cases c5 : ((l0_1.length : Int) : Int).toNat ≤ 35184372088832
  ·rw [if_pos c5] at H
   have c5b0 := eq_true c5
   have c5b1 : decide (((l0_1.length : Int) : Int).toNat ≤ 35184372088832) = true := decide_eq_true c5
   clear c5
   obtain ⟨y169, hy169⟩ : ∃ y_ : List Int, y_ = (List.replicate ((l0_1.length : Int) : Int).toNat 0) := ⟨_, rfl⟩
   replace H : (railplankeep_Times.l0 k y169 (y169.length : Int) 0 a0_0 l0_1 l0_2 t166 t167) = some r := by first | (rw [hy169]; with_reducible exact H) | (have H2_ := (Option.bind_some _ _).symm.trans H; rw [hy169]; with_reducible exact H2_) | (have H2_ := (Option.bind_some _ _).symm.trans H; with_reducible exact H2_) | with_reducible exact H | (rw [hy169]; exact H) | exact H
   have Ny169 := Aside0.mk hy169
   clear hy169
   have H' := Aside0.mk H
   clear H
   go_enter Try.func15, Try.ntmps15
   go_wp2_with (first | ((with_reducible refine gate_dst (N := 2) rfl ?_); refine box_event ?hg (N := 2) ?hd (cs := #[.int .i64 a0_0, .slice A0_1 l0_1.length c0_1, .slice A0_2 l0_2.length c0_2]) (t := 26) ?hr ?_; (case hd => rfl); (case hg => rfl); (case hr => first | (go_simp; done) | (go_simp; rfl)); intro gb165 hg w6 hbox hb; have n0_ := Aside0.mk (below_step (by repeat (first | (with_reducible first | exact HB.out | apply below_alloc | apply pw_below_drewN | apply below_drew1) | exact HB.out)) hb); have n1_ := Aside0.mk (hbox); have n2_ := Aside0.mk ((by rw [hg]; exact (below_size (by repeat (first | (with_reducible first | exact HB.out | apply below_alloc | apply pw_below_drewN | apply below_drew1) | exact HB.out))) : w.heap.size ≤ gb165)); have n3_ := Aside0.mk ((by rw [hg]; exact (below_size (by repeat (first | (with_reducible first | exact HB.out | apply below_alloc | apply pw_below_drewN | apply below_drew1) | exact HB.out))) : w.heap.size ≤ gb165)); clear HB; have HB := n0_; have BK165 := n1_; have GW165 := n2_; have GE165 := n3_; clear n0_ n1_ n2_ n3_; clear hb hbox hg) | ((with_reducible refine gate_callee (f := 37) rfl ?_); refine goesL_ (some 9) rfl rfl Try.func37 (by kernel_rfl) rfl #[.slice A1 l1.length c1] rfl (by (try simp only [List.map_toArray, List.map_cons, List.map_nil]); first | done | rfl | (simp only [List.length_drop, List.length_take]; rfl)) ?_; (with_reducible refine (railplankeep_From.calls _ _ l1 t166 t167 w _ ?side1 ?side2 ?side3 A3.out).mono ?_); (case side1 => repeat (first | (with_reducible first | exact HB.out | apply below_alloc | apply pw_below_drewN | apply below_drew1 | refine below_set ?_ GE165.out) | exact HB.out)); (case side2 => exact HR1.out); (case side3 => exact HC1.out); rintro e w7 ⟨g168, rfl, hi, hb, hb2⟩; refine ⟨_, rfl, ?_⟩; have n0_ := Aside0.mk (blk_below (g := gb165) (o := .cells #[.int .i64 a0_0, .slice A0_1 l0_1.length c0_1, .slice A0_2 l0_2.length c0_2] 26 (0, 0)) (by (with_reducible repeat (first | refine blk_drewN ?_ _ | refine blk_drew ?_ | refine blk_alloc ?_ _)); exact BK165.out) hb2); have n1_ := Aside0.mk (hb); have n2_ := Aside0.mk (hi); have n3_ := Aside0.mk (IsS103.ne_blk hi (blk_below (g := gb165) (o := .cells #[.int .i64 a0_0, .slice A0_1 l0_1.length c0_1, .slice A0_2 l0_2.length c0_2] 26 (0, 0)) (by (with_reducible repeat (first | refine blk_drewN ?_ _ | refine blk_drew ?_ | refine blk_alloc ?_ _)); exact BK165.out) hb2) (by decide)); have n4_ := Aside0.mk (Ne.symm (IsS103.ne_blk hi (blk_below (g := gb165) (o := .cells #[.int .i64 a0_0, .slice A0_1 l0_1.length c0_1, .slice A0_2 l0_2.length c0_2] 26 (0, 0)) (by (with_reducible repeat (first | refine blk_drewN ?_ _ | refine blk_drew ?_ | refine blk_alloc ?_ _)); exact BK165.out) hb2) (by decide))); clear BK165; clear HB; have BK165 := n0_; have HB := n1_; have HI168 := n2_; have NB168_165 := n3_; have NB165_168 := n4_; clear n0_ n1_ n2_ n3_ n4_; (try clear hb); (try clear hb2); (try clear hk); (try clear hi); have hnb8 := NB165_168.out; have hnc8 := NB168_165.out; have hcz9_0 : w7.cell? ⟨gb165, 0, none⟩ = some (.int .i64 a0_0) := (blk_cell BK165.out 0).trans rfl; have hcz9_1 : w7.cell? ⟨gb165, 1, none⟩ = some (.slice A0_1 l0_1.length c0_1) := (blk_cell BK165.out 1).trans rfl; have hcz9_2 : w7.cell? ⟨gb165, 2, none⟩ = some (.slice A0_2 l0_2.length c0_2) := (blk_cell BK165.out 2).trans rfl; have hfz9_0 := blk_frozen BK165.out 0; have hfz9_1 := blk_frozen BK165.out 1; have hfz9_2 := blk_frozen BK165.out 2) | ((with_reducible refine gate_dst (N := 13) rfl ?_); refine Kd.R_make (Kd.int .i64) _ 3 rfl (N := 13) rfl 22 _ _ rfl (l0_1.length : Int) rfl rfl Try.underlying22 (.int .i64 0) 8 info3 rfl (by decide) (by omega) 0 (ok := fun _ => True) (okp := fun _ => True) rfl (fun _ hk => hk) trivial (of_decide_eq_true (by first | (with_reducible assumption) | assumption)) (Nat.le_trans (Nat.mul_le_mul_right _ (of_decide_eq_true (by first | (with_reducible assumption) | assumption) : (l0_1.length : Int).toNat ≤ 35184372088832)) (by omega)) (Below.refl _ _) (Nat.le_refl _) ?_; intro v170 w10 ho11 hb hg_ hnew_; clear hg_ hnew_; (first | rw [← Ny169.out] at ho11 | (simp only [Int.reduceToNat] at ho11; rw [← Ny169.out] at ho11)); have n0_ := Aside0.mk (Kd.R_lower ho11 (below_size (by repeat (first | (with_reducible first | exact HB.out | apply below_alloc | apply pw_below_drewN | apply below_drew1 | refine below_set ?_ (IsS103.ge HI168.out) | refine below_set ?_ GE165.out) | exact HB.out)))); have n1_ := Aside0.mk (blk_below (g := gb165) (o := .cells #[.int .i64 a0_0, .slice A0_1 l0_1.length c0_1, .slice A0_2 l0_2.length c0_2] 26 (0, 0)) (by (with_reducible repeat (first | refine blk_drewN ?_ _ | refine blk_drew ?_ | refine blk_alloc ?_ _)); exact BK165.out) hb); have n2_ := Aside0.mk (IsS103.below (by repeat (first | (with_reducible first | exact HI168.out | apply IsS103.alloc | apply IsS103.drewN | apply IsS103.drew | apply IsS103.set_1 | refine IsS103.far ?_ NB168_165.out _) | exact HI168.out)) hb); have n3_ := Aside0.mk (below_step (by repeat (first | (with_reducible first | exact HB.out | apply below_alloc | apply pw_below_drewN | apply below_drew1 | refine below_set ?_ (IsS103.ge HI168.out) | refine below_set ?_ GE165.out) | exact HB.out)) hb); clear BK165; clear HI168; clear HB; have HO171 := n0_; have BK165 := n1_; have HI168 := n2_; have HB := n3_; clear n0_ n1_ n2_ n3_; clear hb ho11; obtain ⟨Ao12, co12, eo12⟩ := Kd.R_slice HO171.out; subst eo12))
   go_loopg [16] k (fun kq v16 w' => ∃ (x6_1 : List Int) (x16_1 : Int) (x169001_1 : Int), v16 = .int .i64 x16_1 ∧ Aside0 (railplankeep_Times.l0 kq x6_1 (y169.length : Int) x16_1 a0_0 l0_1 l0_2 t166 x169001_1 = some r) ∧ Aside0 (kq ≤ k) ∧ Aside0 (Kd.R (Kd.int .i64) 3 w' w.heap.size (fun _ => True) (.slice Ao12 y169.length co12) x6_1) ∧ Aside0 (w'.heap[gb165]? = some (.cells #[.int .i64 a0_0, (.slice A0_1 l0_1.length c0_1), (.slice A0_2 l0_2.length c0_2)] 26 (0, 0))) ∧ Aside0 (IsS103 w w' g168 t166 x169001_1) ∧ Aside0 (Below w.heap.size w w'))
   case atStart => exact ⟨(y169), (0), (t167), (by first | rfl | (simp; done) | (simp [*]; done)), H', ⟨Nat.le_refl _⟩, ⟨by (with_reducible repeat (first | apply Kd.R_alloc | apply Kd.R_drewN | apply Kd.R_drew)); exact HO171.out⟩, ⟨by (with_reducible repeat (first | refine blk_drewN ?_ _ | refine blk_drew ?_ | refine blk_alloc ?_ _)); exact BK165.out⟩, ⟨by repeat (first | (with_reducible first | exact HI168.out | apply IsS103.alloc | apply IsS103.drewN | apply IsS103.drew | apply IsS103.set_1 | refine IsS103.far ?_ NB168_165.out _) | exact HI168.out)⟩, ⟨by repeat (first | (with_reducible first | exact HB.out | apply below_alloc | apply pw_below_drewN | apply below_drew1 | refine below_set ?_ (IsS103.ge HI168.out) | refine below_set ?_ GE165.out) | exact HB.out)⟩⟩
   case round =>
    clear H'
    try clear c1
    try clear p2
    try clear c3
    try clear c4
    try clear c4b0
    try clear c4b1
    try clear c5
    try clear c5b0
    try clear c5b1
    try clear c8
    try clear hcz9_0
    try clear hcz9_1
    try clear hcz9_2
    try clear hfz9_0
    try clear hfz9_1
    try clear hfz9_2
    obtain ⟨x6_1, x16_1, x169001_1, rfl, HA, HK1, HO_6, BK165, HI168, HB⟩ := hrel
    have hl6_1 := (Kd.R_reads' HO_6.out).1
    rw [hl6_1] at HO_6
    (try simp only [hl6_1])
    (try simp only [hl6_1] at BK165)
    cases gk with
    | zero => exact absurd HA.out (by simp [railplankeep_Times.l0])
    | succ k1 =>
     have H := HA.out
     clear HA
     simp only [railplankeep_Times.l0] at H
     by_cases c13 : x16_1 < (y169.length : Int)
     ·rw [if_pos c13] at H
      have c13b0 : decide (x16_1 < (y169.length : Int)) = true := decide_eq_true c13
      (try (have c13b9_0 := c13b0; simp only [hl6_1] at c13b9_0))
      clear c13
      replace H := Option.bind_eq_some_iff.mp H
      obtain ⟨⟨t172, t173⟩, A140, H⟩ := H
      replace H : (if 0 ≤ x16_1 then (if x16_1 < (x6_1.length : Int) then (railplankeep_Times.l0 k1 (x6_1.set (x16_1 : Int).toNat t172) (y169.length : Int) (wrap64 (x16_1 + 1)) a0_0 l0_1 l0_2 t166 t173) else (none)) else (none)) = some r := H
      have A14 := Aside0.mk A140
      clear A140
      by_cases c15 : 0 ≤ x16_1
      ·rw [if_pos c15] at H
       have c15b0 : decide (0 ≤ x16_1) = true := decide_eq_true c15
       clear c15
       by_cases c16 : x16_1 < (x6_1.length : Int)
       ·rw [if_pos c16] at H
        have c16b0 : decide (x16_1 < (x6_1.length : Int)) = true := decide_eq_true c16
        (try (have c16b9_0 := c16b0; simp only [hl6_1] at c16b9_0))
        clear c16
        obtain ⟨y174, hy174⟩ : ∃ y_ : List Int, y_ = (x6_1.set (x16_1 : Int).toNat t172) := ⟨_, rfl⟩
        replace H : (railplankeep_Times.l0 k1 y174 (y169.length : Int) (wrap64 (x16_1 + 1)) a0_0 l0_1 l0_2 t166 t173) = some r := by first | (rw [hy174]; with_reducible exact H) | (have H2_ := (Option.bind_some _ _).symm.trans H; rw [hy174]; with_reducible exact H2_) | (have H2_ := (Option.bind_some _ _).symm.trans H; with_reducible exact H2_) | with_reducible exact H | (rw [hy174]; exact H) | exact H
        have Ny174 := Aside0.mk hy174
        clear hy174
        have H' := Aside0.mk H
        clear H
        have hnb18 := NB165_168.out
        have hnc18 := NB168_165.out
        have hcz19_0 : wr.cell? ⟨gb165, 0, none⟩ = some (.int .i64 a0_0) := (blk_cell BK165.out 0).trans rfl
        have hcz19_1 : wr.cell? ⟨gb165, 1, none⟩ = some (.slice A0_1 l0_1.length c0_1) := (blk_cell BK165.out 1).trans rfl
        have hcz19_2 : wr.cell? ⟨gb165, 2, none⟩ = some (.slice A0_2 l0_2.length c0_2) := (blk_cell BK165.out 2).trans rfl
        have hfz19_0 := blk_frozen BK165.out 0
        have hfz19_1 := blk_frozen BK165.out 1
        have hfz19_2 := blk_frozen BK165.out 2
        go_wp2_with (first | ((with_reducible refine gate_callee (f := 38) rfl ?_); refine goesL_ (some 24) rfl rfl Try.func38 (by kernel_rfl) rfl #[.pointer (some ⟨g168, 0, none⟩), .int .i64 a0_0] rfl (by (try simp only [List.map_toArray, List.map_cons, List.map_nil]); first | done | rfl | (simp only [List.length_drop, List.length_take]; rfl)) ?_; (with_reducible refine (railplankeep_Source_Next.calls g168 t166 x169001_1 a0_0 t172 t173 w _ ?side1 ?side2 A14.out).mono ?_); (case side1 => repeat (first | (with_reducible first | exact HI168.out | apply IsS103.alloc | apply IsS103.drewN | apply IsS103.drew | apply IsS103.set_1 | refine IsS103.far ?_ NB168_165.out _) | exact HI168.out)); (case side2 => repeat (first | (with_reducible first | exact HB.out | apply below_alloc | apply pw_below_drewN | apply below_drew1 | refine below_set ?_ (IsS103.ge HI168.out) | refine below_set ?_ GE165.out) | exact HB.out)); rintro e w20 ⟨rfl, hi, hb, hk⟩; refine ⟨_, rfl, ?_⟩; have n0_ := Aside0.mk (Kd.R_mono (Kd.R_keep (IsS103.apart (show IsS103 w _ g168 t166 x169001_1 from by repeat (first | (with_reducible first | exact HI168.out | apply IsS103.alloc | apply IsS103.drewN | apply IsS103.drew | apply IsS103.set_1 | refine IsS103.far ?_ NB168_165.out _) | exact HI168.out)) (by (with_reducible repeat (first | apply Kd.R_alloc | apply Kd.R_drewN | apply Kd.R_drew)); exact HO_6.out) (by decide)) hk (fun _ h => h.2)) (fun _ h => h.1)); have n1_ := Aside0.mk (KeepBut.blk hk (g' := gb165) (o := .cells #[.int .i64 a0_0, .slice A0_1 l0_1.length c0_1, .slice A0_2 l0_2.length c0_2] 26 (0, 0)) (by (with_reducible repeat (first | refine blk_drewN ?_ _ | refine blk_drew ?_ | refine blk_alloc ?_ _)); exact BK165.out) NB165_168.out (by simp)); have n2_ := Aside0.mk (hb); have n3_ := Aside0.mk (hi); clear HO_6; clear BK165; clear HB; clear HI168; have HO_6 := n0_; have BK165 := n1_; have HB := n2_; have HI168 := n3_; clear n0_ n1_ n2_ n3_; (try clear hb); (try clear hb2); (try clear hk); (try clear hi); have p17 : 0 ≤ (x16_1 : Int) := of_decide_eq_true (by first | (with_reducible assumption) | assumption); have q17 : (x16_1 : Int) < ((x6_1.length : Int) : Int) := of_decide_eq_true (by first | (with_reducible assumption) | assumption); obtain ⟨go17, co17, eo17, gb17, gl17, cl17, HG17⟩ := Kd.R_form HO_6.out (by first | omega | (have e_ := (Kd.R_reads' HO_6.out).1; omega)); (first | cases eo17 | (injection eo17 with ea_ en_ ec_; (first | subst ea_ | (injection ea_ with ea_; subst ea_)); subst ec_; clear en_)); have GB17 := Aside0.mk gb17; have GG17 := Aside0.mk HG17; clear gb17 gl17 HG17; obtain ⟨hx17_0, hf17_0⟩ := Kd.R_celln 0 HO_6.out (x16_1 : Int) p17 q17; replace p17 := eq_true p17; replace q17 := eq_true q17; obtain ⟨hy21_, hz21_⟩ := Kd.R_celln 0 HO_6.out (x16_1 : Int) (of_decide_eq_true (by first | (with_reducible assumption) | assumption)) (of_decide_eq_true (by first | (with_reducible assumption) | assumption)); have HP21 := Kd.R_putg HO_6.out (x16_1 : Int) t172) | ((with_reducible refine gate_store (t := 3) (p := 25) rfl ?_); refine store_event (t := 3) (p := 25) (v := ?vo_w22) (w1 := (w20.setCell ⟨go17, (x16_1 : Int).toNat, none⟩ (.int .i64 t172))) ?hg ?ho ?hn ?hr ?_; (case ho => rfl); (case hg => rfl); (case hn => rfl); (case hr => first | (go_simp; done) | (go_simp; rfl)); intro w22 hw; have hg : w20.grownBy w22 (some go17) := (by rw [hw]; exact HP21.2); have hp_ : Kd.R (Kd.int .i64) 3 w22 w.heap.size (fun _ => True) (.slice (some ⟨go17, 0, none⟩) x6_1.length co12) y174 := (by rw [hw, Ny174.out]; exact HP21.1); clear HP21; have n0_ := Aside0.mk (hp_); have n1_ := Aside0.mk (blk_grown (g := gb165) (o := .cells #[.int .i64 a0_0, .slice A0_1 l0_1.length c0_1, .slice A0_2 l0_2.length c0_2] 26 (0, 0)) (by (with_reducible repeat (first | refine blk_drewN ?_ _ | refine blk_drew ?_ | refine blk_alloc ?_ _)); exact BK165.out) hg (Kd.R_ne HO_6.out BK165.out (by decide))); have n2_ := Aside0.mk (IsS103.grown (by first | exact IsS103.far HI168.out NB168_165.out _ | repeat (first | (with_reducible first | exact HI168.out | apply IsS103.alloc | apply IsS103.drewN | apply IsS103.drew | apply IsS103.set_1 | refine IsS103.far ?_ NB168_165.out _) | exact HI168.out)) hg (IsS103.own_ne HI168.out HO_6.out (by decide))); have n3_ := Aside0.mk ((by rw [hw]; exact below_set (HB.out) GB17.out : Below w.heap.size w w22)); clear HO_6; clear BK165; clear HI168; clear HB; have HO_6 := n0_; have BK165 := n1_; have HI168 := n2_; have HB := n3_; clear n0_ n1_ n2_ n3_; clear hg hw hp_))
        (try simp only [← hl6_1])
        go_roundg k1
        case measure => have := HK1.out; omega
        case rel => exact ⟨(y174), (wrap64 (x16_1 + 1)), (t173), (by first | rfl | (simp; done) | (simp [*]; done)), H', ⟨by have := HK1.out; omega⟩, ⟨by (try simp only [hl6_1]); (with_reducible repeat (first | apply Kd.R_alloc | apply Kd.R_drewN | apply Kd.R_drew)); exact HO_6.out⟩, ⟨by (try simp only [hl6_1]); (with_reducible repeat (first | refine blk_drewN ?_ _ | refine blk_drew ?_ | refine blk_alloc ?_ _)); exact BK165.out⟩, ⟨by repeat (first | (with_reducible first | exact HI168.out | apply IsS103.alloc | apply IsS103.drewN | apply IsS103.drew | apply IsS103.set_1 | refine IsS103.far ?_ NB168_165.out _) | exact HI168.out)⟩, ⟨by repeat (first | (with_reducible first | exact HB.out | apply below_alloc | apply pw_below_drewN | apply below_drew1 | refine below_set ?_ (IsS103.ge HI168.out) | refine below_set ?_ GE165.out) | exact HB.out)⟩⟩
       ·rw [if_neg c16] at H
        exact absurd H (by simp)
      ·rw [if_neg c15] at H
       exact absurd H (by simp)
     ·rw [if_neg c13] at H
      have c13b0 : decide (x16_1 < (y169.length : Int)) = false := decide_eq_false c13
      (try (have c13b9_0 := c13b0; simp only [hl6_1] at c13b9_0))
      clear c13
      obtain rfl := Option.some.inj H
      go_wp2
      go_ret
      exact ⟨_, by first | rfl | (simp [errW_none, errW_some] <;> rfl) | (simp [*, errW_none, errW_some] <;> rfl), by (with_reducible repeat (first | apply Kd.R_alloc | apply Kd.R_drewN | apply Kd.R_drew)); exact HO_6.out, by repeat (first | (with_reducible first | exact HB.out | apply below_alloc | apply pw_below_drewN | apply below_drew1 | refine below_set ?_ (IsS103.ge HI168.out) | refine below_set ?_ GE165.out) | exact HB.out)⟩
  ·rw [if_neg c5] at H
   exact absurd H (by simp)
 ·rw [if_neg c4] at H
  exact absurd H (by simp)

end Go.Proofs.Ytlmlkedcinobiaa.XAll
