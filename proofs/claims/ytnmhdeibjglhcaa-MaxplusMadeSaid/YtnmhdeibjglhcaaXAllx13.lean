-- This session's own text, written by wip/tools/xall.py after the form of the kit's print.
import Derived.Test.YtnmhdeibjglhcaaXAllx0
import Derived.Test.YtnmhdeibjglhcaaXAllx9
import Derived.Test.YtnmhdeibjglhcaaXAllx12
namespace Go.Proofs.Ytnmhdeibjglhcaa.XAll
open Go.RowKit Go.Proofs.YtnmhdeibjglhcaaW.PrintWords Go.Proofs.YtnmhdeibjglhcaaW.PrintLast Go.Proofs.YtnmhdeibjglhcaaW.PrintMore
attribute [local go_sem] max2_int min2_int max_two min_two max_three min_three max_four min_four   -- for this text's walks alone
set_option linter.unusedVariables false
set_option linter.unusedSimpArgs false

/-! ### railplanref30_unit: function 51 -/
mutual
def railplanref30_unit.l0 : Nat → Int → List (List Int) → Int → Option ((List (List Int)))
 | 0, _, _, _ => none
 | k + 1, x0, x3, x4 => if x4 < x0 then (if 0 ≤ x0 then (if (x0 : Int).toNat ≤ 35184372088832 then ((some (List.replicate (x0 : Int).toNat 0 : List Int)).bind fun y300 => (railplanref30_unit.l1 k x0 x3 x4 y300 (y300.length : Int) 0)) else (none)) else (none)) else (some x3)
def railplanref30_unit.l1 : Nat → Int → List (List Int) → Int → List Int → Int → Int → Option ((List (List Int)))
 | 0, _, _, _, _, _, _ => none
 | k + 1, x0, x3, x4, x5, x15, x16 => if x16 < x15 then (if x16 = x4 then (railplanref30_unit.l1 k x0 x3 x4 x5 x15 (wrap64 (x16 + 1))) else (if 0 ≤ x16 then (if x16 < (x5.length : Int) then (railplanref30_unit.l1 k x0 x3 x4 (x5.set (x16 : Int).toNat (-1125899906842624)) x15 (wrap64 (x16 + 1))) else (none)) else (none))) else (if x3.length < 5864062014805 then (railplanref30_unit.l0 k x0 (x3 ++ [x5]) (wrap64 (x4 + 1))) else (none))
end
def railplanref30_unit.f (k : Nat) (a0 : Int) : Option ((List (List Int))) := railplanref30_unit.l0 k a0 ([] : List (List Int)) 0
theorem railplanref30_unit.mono_l : ∀ k, (∀ y0 y1 y2, LeO (railplanref30_unit.l0 k y0 y1 y2) (railplanref30_unit.l0 (k + 1) y0 y1 y2)) ∧ (∀ y0 y1 y2 y3 y4 y5, LeO (railplanref30_unit.l1 k y0 y1 y2 y3 y4 y5) (railplanref30_unit.l1 (k + 1) y0 y1 y2 y3 y4 y5))
 | 0 => ⟨fun _ _ _ r h => by simp [railplanref30_unit.l0] at h, fun _ _ _ _ _ _ r h => by simp [railplanref30_unit.l1] at h⟩
 | k + 1 => by
  obtain ⟨ih0, ih1⟩ := railplanref30_unit.mono_l k
  refine ⟨?_, ?_⟩
  ·intro y0 y1 y2
   unfold railplanref30_unit.l0
   repeat' first
   | (with_reducible exact ih0 _ _ _)
   | (with_reducible exact ih1 _ _ _ _ _ _)
   | (with_reducible exact LeO.refl _)
   | (with_reducible exact LeO.none _)
   | (with_reducible refine LeO.ite ?_ ?_)
   | (with_reducible refine LeO.bind ?_ (fun _ => ?_))
   | exact ih0 _ _ _
   | exact ih1 _ _ _ _ _ _
   | exact LeO.none _
   | refine LeO.ite ?_ ?_
   | refine LeO.bind ?_ (fun _ => ?_)
  ·intro y0 y1 y2 y3 y4 y5
   unfold railplanref30_unit.l1
   repeat' first
   | (with_reducible exact ih0 _ _ _)
   | (with_reducible exact ih1 _ _ _ _ _ _)
   | (with_reducible exact LeO.refl _)
   | (with_reducible exact LeO.none _)
   | (with_reducible refine LeO.ite ?_ ?_)
   | (with_reducible refine LeO.bind ?_ (fun _ => ?_))
   | exact ih0 _ _ _
   | exact ih1 _ _ _ _ _ _
   | exact LeO.none _
   | refine LeO.ite ?_ ?_
   | refine LeO.bind ?_ (fun _ => ?_)
theorem railplanref30_unit.mono : ∀ a0 k, LeO (railplanref30_unit.f k a0) (railplanref30_unit.f (k + 1) a0) := by
 intro a0 k
 obtain ⟨ih0, ih1⟩ := railplanref30_unit.mono_l k
 unfold railplanref30_unit.f
 repeat' first
   | (with_reducible exact ih0 _ _ _)
   | (with_reducible exact ih1 _ _ _ _ _ _)
   | (with_reducible exact LeO.refl _)
   | (with_reducible exact LeO.none _)
   | (with_reducible refine LeO.ite ?_ ?_)
   | (with_reducible refine LeO.bind ?_ (fun _ => ?_))
   | exact ih0 _ _ _
   | exact ih1 _ _ _ _ _ _
   | exact LeO.none _
   | refine LeO.ite ?_ ?_
   | refine LeO.bind ?_ (fun _ => ?_)
set_option maxHeartbeats 8000000 in
set_option maxRecDepth 100000 in
theorem railplanref30_unit.calls (k : Nat) (a0 : Int) (r : List (List Int)) (w : World) (h : railplanref30_unit.f k a0 = some r) :
  Calls Try.prog 51 #[.int .i64 a0] w fun e w' => ∃ v0_ : Value, e = .returned (v0_) ∧ Kd.S (Kd.slice 3 (Kd.int .i64)) 22 w' w.heap.size (fun _ => True) v0_ r ∧ Below w.heap.size w w' := by
 have HB := Aside0.mk (Below.refl w.heap.size w)
 have H : (railplanref30_unit.l0 k a0 ([] : List (List Int)) 0) = some r := h
 clear h
 have H' := Aside0.mk H
 clear H
 go_enter Try.func51, Try.ntmps51
 go_wp2
 go_loopg [3, 4] k (fun kq v3 v4 w' => ∃ (x3_1 : List (List Int)) (x4_1 : Int), v4 = .int .i64 x4_1 ∧ Aside0 (railplanref30_unit.l0 kq a0 x3_1 x4_1 = some r) ∧ Aside0 (kq ≤ k) ∧ Aside0 (Kd.S (Kd.slice 3 (Kd.int .i64)) 22 w' w.heap.size (fun _ => True) v3 x3_1) ∧ Aside0 (Below w.heap.size w w'))
 case atStart => exact ⟨(([] : List (List Int))), (0), (by first | rfl | (simp; done) | (simp [*]; done)), H', ⟨Nat.le_refl _⟩, ⟨by first | exact Kd.S_nil _ _ _ _ _ | exact Kd.N_nil _ _ _ _ _ | exact Kd.V_nil _ _ _ _ _ | exact Kd.Q_nil _ _ _ _ _ | exact Kd.R_nil _ _ _ _ _⟩, ⟨by repeat (first | (with_reducible first | exact HB.out | apply below_alloc | apply pw_below_drewN | apply below_drew1) | exact HB.out)⟩⟩
 case round =>
  clear H'
  obtain ⟨x3_1, x4_1, rfl, HA, HK1, HO_3, HB⟩ := hrel
  cases gk with
  | zero => exact absurd HA.out (by simp [railplanref30_unit.l0])
  | succ k1 =>
   have H := HA.out
   clear HA
   simp only [railplanref30_unit.l0] at H
   by_cases c2 : x4_1 < a0
   ·rw [if_pos c2] at H
    have c2b0 : decide (x4_1 < a0) = true := decide_eq_true c2
    clear c2
    by_cases c3 : 0 ≤ a0
    ·rw [if_pos c3] at H
     have c3b0 := eq_true c3
     have c3b1 : decide (0 ≤ a0) = true := decide_eq_true c3
     clear c3
     by_cases c4 : (a0 : Int).toNat ≤ 35184372088832
     ·rw [if_pos c4] at H
      have c4b0 := eq_true c4
      have c4b1 : decide ((a0 : Int).toNat ≤ 35184372088832) = true := decide_eq_true c4
      clear c4
      obtain ⟨y300, hy300⟩ : ∃ y_ : List Int, y_ = (List.replicate (a0 : Int).toNat 0) := ⟨_, rfl⟩
      replace H : (railplanref30_unit.l1 k1 a0 x3_1 x4_1 y300 (y300.length : Int) 0) = some r := by first | (rw [hy300]; with_reducible exact H) | (have H2_ := (Option.bind_some _ _).symm.trans H; rw [hy300]; with_reducible exact H2_) | (have H2_ := (Option.bind_some _ _).symm.trans H; with_reducible exact H2_) | with_reducible exact H | (rw [hy300]; exact H) | exact H
      have Ny300 := Aside0.mk hy300
      clear hy300
      have H' := Aside0.mk H
      clear H
      go_wp2_with (first | ((with_reducible refine gate_dst (N := 13) rfl ?_); refine Kd.R_make (Kd.int .i64) _ 3 rfl (N := 13) rfl 22 _ _ rfl a0 rfl rfl Try.underlying22 (.int .i64 0) 8 info3 rfl (by decide) (by omega) 0 (ok := fun _ => True) (okp := fun _ => True) rfl (fun _ hk => hk) trivial (of_decide_eq_true (by first | (with_reducible assumption) | assumption)) (Nat.le_trans (Nat.mul_le_mul_right _ (of_decide_eq_true (by first | (with_reducible assumption) | assumption) : a0.toNat ≤ 35184372088832)) (by omega)) (Below.refl _ _) (Nat.le_refl _) ?_; intro v301 w5 ho6 hb hg_ hnew_; clear hg_ hnew_; (first | rw [← Ny300.out] at ho6 | (simp only [Int.reduceToNat] at ho6; rw [← Ny300.out] at ho6)); have n0_ := Aside0.mk (Kd.S_elder' (by (with_reducible repeat (first | apply Kd.S_alloc | apply Kd.S_drewN | apply Kd.S_drew)); exact HO_3.out) (by first | exact Kd.N_base ho6 | exact Kd.S_base ho6 | exact Kd.R_base ho6 | exact Kd.Q_base ho6) hb); have n1_ := Aside0.mk (Kd.R_lower ho6 (below_size (by repeat (first | (with_reducible first | exact HB.out | apply below_alloc | apply pw_below_drewN | apply below_drew1) | exact HB.out)))); have n2_ := Aside0.mk (below_step (by repeat (first | (with_reducible first | exact HB.out | apply below_alloc | apply pw_below_drewN | apply below_drew1) | exact HB.out)) hb); clear HO_3; clear HB; have HO_3 := n0_; have HO302 := n1_; have HB := n2_; clear n0_ n1_ n2_; clear hb ho6; obtain ⟨Ao7, co7, eo7⟩ := Kd.R_slice HO302.out; subst eo7))
      go_loopg [16] k1 (fun kq v16 w' => ∃ (x5_2 : List Int) (x16_2 : Int), v16 = .int .i64 x16_2 ∧ Aside0 (railplanref30_unit.l1 kq a0 x3_1 x4_1 x5_2 (y300.length : Int) x16_2 = some r) ∧ Aside0 (kq ≤ k1) ∧ Aside0 (Kd.S (Kd.slice 3 (Kd.int .i64)) 22 w' w.heap.size (fun k_ => some k_ ≠ ((.slice Ao7 y300.length co7) : Value).ownBlock) u3 x3_1) ∧ Aside0 (Kd.R (Kd.int .i64) 3 w' w.heap.size (fun _ => True) (.slice Ao7 y300.length co7) x5_2) ∧ Aside0 (Below w.heap.size w w'))
      case atStart => exact ⟨(y300), (0), (by first | rfl | (simp; done) | (simp [*]; done)), H', ⟨Nat.le_refl _⟩, ⟨by (with_reducible repeat (first | apply Kd.S_alloc | apply Kd.S_drewN | apply Kd.S_drew)); exact Kd.S_mono HO_3.out (fun _ hk => hk.2)⟩, ⟨by (with_reducible repeat (first | apply Kd.R_alloc | apply Kd.R_drewN | apply Kd.R_drew)); exact HO302.out⟩, ⟨by repeat (first | (with_reducible first | exact HB.out | apply below_alloc | apply pw_below_drewN | apply below_drew1) | exact HB.out)⟩⟩
      case round =>
       clear H'
       try clear c2
       try clear c2b0
       try clear p2
       try clear c3
       try clear c3b0
       try clear c3b1
       try clear c4
       try clear c4b0
       try clear c4b1
       try clear c5
       obtain ⟨x5_2, x16_2, rfl, HA, HK2, HO_3, HO_5, HB⟩ := hrel
       have hl5_2 := (Kd.R_reads' HO_5.out).1
       rw [hl5_2] at HO_5
       (try simp only [hl5_2])
       (try simp only [hl5_2] at HO_3)
       cases gk with
       | zero => exact absurd HA.out (by simp [railplanref30_unit.l1])
       | succ k2 =>
        have H := HA.out
        clear HA
        simp only [railplanref30_unit.l1] at H
        by_cases c8 : x16_2 < (y300.length : Int)
        ·rw [if_pos c8] at H
         have c8b0 : decide (x16_2 < (y300.length : Int)) = true := decide_eq_true c8
         (try (have c8b9_0 := c8b0; simp only [hl5_2] at c8b9_0))
         clear c8
         by_cases c9 : x16_2 = x4_1
         ·rw [if_pos c9] at H
          have c9b0 : (x16_2 == x4_1) = true := beq_iff_eq.mpr c9
          have c9b1 : (x16_2 != x4_1) = false := bne_eq_false_iff_eq.mpr c9
          clear c9
          have H' := Aside0.mk H
          clear H
          go_wp2
          (try simp only [← hl5_2])
          go_roundg k2
          case measure => have := HK1.out; have := HK2.out; omega
          case rel => exact ⟨(x5_2), (wrap64 (x16_2 + 1)), (by first | rfl | (simp; done) | (simp [*]; done)), H', ⟨by have := HK1.out; have := HK2.out; omega⟩, ⟨by (try simp only [hl5_2]); (with_reducible repeat (first | apply Kd.S_alloc | apply Kd.S_drewN | apply Kd.S_drew)); exact HO_3.out⟩, ⟨by (try simp only [hl5_2]); (with_reducible repeat (first | apply Kd.R_alloc | apply Kd.R_drewN | apply Kd.R_drew)); exact HO_5.out⟩, ⟨by repeat (first | (with_reducible first | exact HB.out | apply below_alloc | apply pw_below_drewN | apply below_drew1) | exact HB.out)⟩⟩
         ·rw [if_neg c9] at H
          have c9b0 : (x16_2 == x4_1) = false := beq_eq_false_iff_ne.mpr c9
          have c9b1 : (x16_2 != x4_1) = true := bne_iff_ne.mpr c9
          by_cases c10 : 0 ≤ x16_2
          ·rw [if_pos c10] at H
           have c10b0 : decide (0 ≤ x16_2) = true := decide_eq_true c10
           clear c10
           by_cases c11 : x16_2 < (x5_2.length : Int)
           ·rw [if_pos c11] at H
            have c11b0 : decide (x16_2 < (x5_2.length : Int)) = true := decide_eq_true c11
            (try (have c11b9_0 := c11b0; simp only [hl5_2] at c11b9_0))
            clear c11
            obtain ⟨y303, hy303⟩ : ∃ y_ : List Int, y_ = (x5_2.set (x16_2 : Int).toNat (-1125899906842624)) := ⟨_, rfl⟩
            replace H : (railplanref30_unit.l1 k2 a0 x3_1 x4_1 y303 (y300.length : Int) (wrap64 (x16_2 + 1))) = some r := by first | (rw [hy303]; with_reducible exact H) | (have H2_ := (Option.bind_some _ _).symm.trans H; rw [hy303]; with_reducible exact H2_) | (have H2_ := (Option.bind_some _ _).symm.trans H; with_reducible exact H2_) | with_reducible exact H | (rw [hy303]; exact H) | exact H
            have Ny303 := Aside0.mk hy303
            clear hy303
            have H' := Aside0.mk H
            clear H
            have p12 : 0 ≤ (x16_2 : Int) := of_decide_eq_true (by first | (with_reducible assumption) | assumption)
            have q12 : (x16_2 : Int) < ((x5_2.length : Int) : Int) := of_decide_eq_true (by first | (with_reducible assumption) | assumption)
            obtain ⟨go12, co12, eo12, gb12, gl12, cl12, HG12⟩ := Kd.R_form HO_5.out (by omega)
            (first | cases eo12 | (injection eo12 with ea_ en_ ec_; (first | subst ea_ | (injection ea_ with ea_; subst ea_)); subst ec_; clear en_))
            have GB12 := Aside0.mk gb12
            have GG12 := Aside0.mk HG12
            clear gb12 gl12 HG12
            obtain ⟨hx12_0, hf12_0⟩ := Kd.R_celln 0 HO_5.out (x16_2 : Int) p12 q12
            replace p12 := eq_true p12
            replace q12 := eq_true q12
            have HP13 := Kd.R_putg HO_5.out (x16_2 : Int) (-1125899906842624)
            go_wp2_with (first | ((with_reducible refine gate_store (t := 3) (p := 24) rfl ?_); refine store_event (t := 3) (p := 24) (v := ?vo_w14) (w1 := (wr.setCell ⟨go12, (x16_2 : Int).toNat, none⟩ (.int .i64 (-1125899906842624)))) ?hg ?ho ?hn ?hr ?_; (case ho => rfl); (case hg => rfl); (case hn => rfl); (case hr => first | (go_simp; done) | (go_simp; rfl)); intro w14 hw; have hg : wr.grownBy w14 (some go12) := (by rw [hw]; exact HP13.2); have hp_ : Kd.R (Kd.int .i64) 3 w14 w.heap.size (fun _ => True) (.slice (some ⟨go12, 0, none⟩) x5_2.length co7) y303 := (by rw [hw, Ny303.out]; exact HP13.1); clear HP13; have n0_ := Aside0.mk (Kd.S_after (v := (.slice (some ⟨go12, 0, none⟩) x5_2.length co7)) (v1 := (.slice (some ⟨go12, 0, none⟩) x5_2.length co7)) (ok := (fun _ => True)) (by (with_reducible repeat (first | apply Kd.S_alloc | apply Kd.S_drewN | apply Kd.S_drew)); exact Kd.S_mono HO_3.out (fun _ hk => ⟨trivial, hk⟩)) hg (.inl rfl)); have n1_ := Aside0.mk (hp_); have n2_ := Aside0.mk ((by rw [hw]; exact below_set (HB.out) GB12.out : Below w.heap.size w w14)); clear HO_3; clear HO_5; clear HB; have HO_3 := n0_; have HO_5 := n1_; have HB := n2_; clear n0_ n1_ n2_; clear hg hw hp_))
            (try simp only [← hl5_2])
            go_roundg k2
            case measure => have := HK1.out; have := HK2.out; omega
            case rel => exact ⟨(y303), (wrap64 (x16_2 + 1)), (by first | rfl | (simp; done) | (simp [*]; done)), H', ⟨by have := HK1.out; have := HK2.out; omega⟩, ⟨by (try simp only [hl5_2]); (with_reducible repeat (first | apply Kd.S_alloc | apply Kd.S_drewN | apply Kd.S_drew)); exact Kd.S_mono HO_3.out (fun _ hk => hk.2)⟩, ⟨by (try simp only [hl5_2]); (with_reducible repeat (first | apply Kd.R_alloc | apply Kd.R_drewN | apply Kd.R_drew)); exact HO_5.out⟩, ⟨by repeat (first | (with_reducible first | exact HB.out | apply below_alloc | apply pw_below_drewN | apply below_drew1) | exact HB.out)⟩⟩
           ·rw [if_neg c11] at H
            exact absurd H (by simp)
          ·rw [if_neg c10] at H
           exact absurd H (by simp)
        ·rw [if_neg c8] at H
         have c8b0 : decide (x16_2 < (y300.length : Int)) = false := decide_eq_false c8
         (try (have c8b9_0 := c8b0; simp only [hl5_2] at c8b9_0))
         clear c8
         by_cases c15 : x3_1.length < 5864062014805
         ·rw [if_pos c15] at H
          have LMc15 := Aside0.mk c15
          clear c15
          obtain ⟨y304, hy304⟩ : ∃ y_ : List (List Int), y_ = (x3_1 ++ [x5_2]) := ⟨_, rfl⟩
          replace H : (railplanref30_unit.l0 k2 a0 y304 (wrap64 (x4_1 + 1))) = some r := by first | (rw [hy304]; with_reducible exact H) | (have H2_ := (Option.bind_some _ _).symm.trans H; rw [hy304]; with_reducible exact H2_) | (have H2_ := (Option.bind_some _ _).symm.trans H; with_reducible exact H2_) | with_reducible exact H | (rw [hy304]; exact H) | exact H
          have Ny304 := Aside0.mk hy304
          clear hy304
          have H' := Aside0.mk H
          clear H
          go_wp2_with (first | ((with_reducible refine gate_builtin (b := .append) (xs := #[.tmp 26, .tmp 28]) rfl ?_); at_builtin; refine Kd.S_append (Kd.slice 3 (Kd.int .i64)) (w0 := w) w.heap.size rfl (.tmp 26) (.tmp 28) 23 22 (.slice none 0 0) 24 rfl Try.underlying23 info22 rfl (by decide) (by omega) u3 x3_1 x5_2 [.slice Ao7 x5_2.length co7] (fun _ => True) (fun k_ => some k_ = (.slice Ao7 x5_2.length co7 : Value).ownBlock) rfl rfl ?aP (fun k_ hk_ => ((Kd.R_mono (ok' := fun k_ => ((fun _ => True)) k_ ∧ some k_ ≠ (u3 : Value).ownBlock) (Kd.R_apart' (HO_5.out) (Kd.S_typed HO_3.out) (by decide)) (fun k_ hk => ⟨trivial, hk.2⟩))).1 k_ hk_.symm) ?aF ?aO ?aB ?aS ?aL ?_; (case aP => exact Kd.M_row (Kd.R_mono (Kd.R_tight rfl (Kd.R_mono (ok' := fun k_ => ((fun _ => True)) k_ ∧ some k_ ≠ (u3 : Value).ownBlock) (Kd.R_apart' (HO_5.out) (Kd.S_typed HO_3.out) (by decide)) (fun k_ hk => ⟨trivial, hk.2⟩))) (fun _ h_ => h_))); (case aB => exact (by repeat (first | (with_reducible first | exact HB.out | apply below_alloc | apply pw_below_drewN | apply below_drew1) | exact HB.out))); (case aF => exact (fun _ _ => trivial)); (case aO => exact (by (with_reducible repeat (first | apply Kd.S_alloc | apply Kd.S_drewN | apply Kd.S_drew)); exact Kd.S_mono HO_3.out (fun k_ hk => ⟨trivial, fun e_ => hk e_⟩))); (case aS => exact (below_size (by repeat (first | (with_reducible first | exact HB.out | apply below_alloc | apply pw_below_drewN | apply below_drew1) | exact HB.out)))); (case aL => have := LMc15.out; omega); intro v305 w16 ho hb hg hat; rw [← Ny304.out] at ho; have n0_ := Aside0.mk (hb); have n1_ := Aside0.mk (ho); clear HB; clear HO_3; clear HO_5; have HB := n0_; have HO306 := n1_; clear n0_ n1_; clear ho hb hg hat))
          (try simp only [← hl5_2])
          go_roundg k2
          case measure => have := HK1.out; have := HK2.out; omega
          case rel => exact ⟨(y304), (wrap64 (x4_1 + 1)), (by first | rfl | (simp; done) | (simp [*]; done)), H', ⟨by have := HK1.out; have := HK2.out; omega⟩, ⟨by (try simp only [hl5_2]); (with_reducible repeat (first | apply Kd.S_alloc | apply Kd.S_drewN | apply Kd.S_drew)); exact HO306.out⟩, ⟨by repeat (first | (with_reducible first | exact HB.out | apply below_alloc | apply pw_below_drewN | apply below_drew1) | exact HB.out)⟩⟩
         ·rw [if_neg c15] at H
          exact absurd H (by simp)
     ·rw [if_neg c4] at H
      exact absurd H (by simp)
    ·rw [if_neg c3] at H
     exact absurd H (by simp)
   ·rw [if_neg c2] at H
    have c2b0 : decide (x4_1 < a0) = false := decide_eq_false c2
    clear c2
    obtain rfl := Option.some.inj H
    go_wp2
    go_ret
    exact ⟨_, by first | rfl | (simp [errW_none, errW_some] <;> rfl) | (simp [*, errW_none, errW_some] <;> rfl), by (with_reducible repeat (first | apply Kd.S_alloc | apply Kd.S_drewN | apply Kd.S_drew)); exact HO_3.out, by repeat (first | (with_reducible first | exact HB.out | apply below_alloc | apply pw_below_drewN | apply below_drew1) | exact HB.out)⟩

/-! ### railplanref30_Power: function 29 -/
mutual
def railplanref30_Power.j0 : Nat → List (List Int) → Int → Bool → Option ((List (List Int)) × Int)
 | 0, _, _, _ => none
 | k + 1, x0, x1, x17 => if x17 = true then (some (([] : List (List Int)), 4)) else ((railplanref30_unit.f k (x0.length : Int)).bind fun t308 => (railplanref30_Power.l0 k x0 x1 t308))
def railplanref30_Power.l0 : Nat → List (List Int) → Int → List (List Int) → Option ((List (List Int)) × Int)
 | 0, _, _, _ => none
 | k + 1, x0, x1, x6 => if x1 > 0 then ((railplanref30_Mul.f k x6 x0).bind fun bt311 => (if bt311.2 = 0 then (railplanref30_Power.l0 k x0 (wrap64 (x1 - 1)) bt311.1) else (some (([] : List (List Int)), bt311.2)))) else (some (x6, 0))
end
def railplanref30_Power.f (k : Nat) (l0 : List (List Int)) (a1 : Int) : Option ((List (List Int)) × Int) := (railplanref30_CheckMatrix.f k l0).bind fun t307 => (if t307 = true then (if a1 < 0 then (railplanref30_Power.j0 k l0 a1 true) else (railplanref30_Power.j0 k l0 a1 (decide (a1 > 3600)))) else (some (([] : List (List Int)), 1)))
theorem railplanref30_Power.mono_l : ∀ k, (∀ y0 y1 y2, LeO (railplanref30_Power.j0 k y0 y1 y2) (railplanref30_Power.j0 (k + 1) y0 y1 y2)) ∧ (∀ y0 y1 y2, LeO (railplanref30_Power.l0 k y0 y1 y2) (railplanref30_Power.l0 (k + 1) y0 y1 y2))
 | 0 => ⟨fun _ _ _ r h => by simp [railplanref30_Power.j0] at h, fun _ _ _ r h => by simp [railplanref30_Power.l0] at h⟩
 | k + 1 => by
  obtain ⟨ih0, ih1⟩ := railplanref30_Power.mono_l k
  refine ⟨?_, ?_⟩
  ·intro y0 y1 y2
   unfold railplanref30_Power.j0
   repeat' first
   | (with_reducible exact ih0 _ _ _)
   | (with_reducible exact ih1 _ _ _)
   | (with_reducible exact railplanref30_CheckMatrix.mono _ _)
   | (with_reducible exact railplanref30_Mul.mono _ _ _)
   | (with_reducible exact railplanref30_unit.mono _ _)
   | (with_reducible exact LeO.refl _)
   | (with_reducible exact LeO.none _)
   | (with_reducible refine LeO.ite ?_ ?_)
   | (with_reducible refine LeO.bind ?_ (fun _ => ?_))
   | exact ih0 _ _ _
   | exact ih1 _ _ _
   | exact railplanref30_CheckMatrix.mono _ _
   | exact railplanref30_Mul.mono _ _ _
   | exact railplanref30_unit.mono _ _
   | exact LeO.none _
   | refine LeO.ite ?_ ?_
   | refine LeO.bind ?_ (fun _ => ?_)
  ·intro y0 y1 y2
   unfold railplanref30_Power.l0
   repeat' first
   | (with_reducible exact ih0 _ _ _)
   | (with_reducible exact ih1 _ _ _)
   | (with_reducible exact railplanref30_CheckMatrix.mono _ _)
   | (with_reducible exact railplanref30_Mul.mono _ _ _)
   | (with_reducible exact railplanref30_unit.mono _ _)
   | (with_reducible exact LeO.refl _)
   | (with_reducible exact LeO.none _)
   | (with_reducible refine LeO.ite ?_ ?_)
   | (with_reducible refine LeO.bind ?_ (fun _ => ?_))
   | exact ih0 _ _ _
   | exact ih1 _ _ _
   | exact railplanref30_CheckMatrix.mono _ _
   | exact railplanref30_Mul.mono _ _ _
   | exact railplanref30_unit.mono _ _
   | exact LeO.none _
   | refine LeO.ite ?_ ?_
   | refine LeO.bind ?_ (fun _ => ?_)
theorem railplanref30_Power.mono : ∀ a0 a1 k, LeO (railplanref30_Power.f k a0 a1) (railplanref30_Power.f (k + 1) a0 a1) := by
 intro a0 a1 k
 obtain ⟨ih0, ih1⟩ := railplanref30_Power.mono_l k
 unfold railplanref30_Power.f
 repeat' first
   | (with_reducible exact ih0 _ _ _)
   | (with_reducible exact ih1 _ _ _)
   | (with_reducible exact railplanref30_CheckMatrix.mono _ _)
   | (with_reducible exact railplanref30_Mul.mono _ _ _)
   | (with_reducible exact railplanref30_unit.mono _ _)
   | (with_reducible exact LeO.refl _)
   | (with_reducible exact LeO.none _)
   | (with_reducible refine LeO.ite ?_ ?_)
   | (with_reducible refine LeO.bind ?_ (fun _ => ?_))
   | exact ih0 _ _ _
   | exact ih1 _ _ _
   | exact railplanref30_CheckMatrix.mono _ _
   | exact railplanref30_Mul.mono _ _ _
   | exact railplanref30_unit.mono _ _
   | exact LeO.none _
   | refine LeO.ite ?_ ?_
   | refine LeO.bind ?_ (fun _ => ?_)
set_option maxHeartbeats 8000000 in
set_option maxRecDepth 100000 in
theorem railplanref30_Power.calls (k : Nat) (A0 : Option Addr) (c0 : Nat) (l0 : List (List Int)) (a1 : Int) (r1 : List (List Int)) (r2 : Int) (w : World) (hr0 : Kd.C (Kd.slice 3 (Kd.int .i64)) w A0 l0.length l0) (hc0 : l0.length ≤ c0) (h : railplanref30_Power.f k l0 a1 = some (r1, r2)) :
  Calls Try.prog 29 #[.slice A0 l0.length c0, .int .i64 a1] w fun e w' => ∃ v0_ : Value, e = .returned (.tuple #[v0_, .int .i64 r2]) ∧ Kd.S (Kd.slice 3 (Kd.int .i64)) 22 w' w.heap.size (fun _ => True) v0_ r1 ∧ Below w.heap.size w w' := by
 have HR0 := Aside0.mk hr0
 have HC0 := Aside0.mk hc0
 clear hr0 hc0
 have HB := Aside0.mk (Below.refl w.heap.size w)
 have H : ((railplanref30_CheckMatrix.f k l0).bind fun t307 => (if t307 = true then (if a1 < 0 then (railplanref30_Power.j0 k l0 a1 true) else (railplanref30_Power.j0 k l0 a1 (decide (a1 > 3600)))) else (some (([] : List (List Int)), 1)))) = some (r1, r2) := h
 clear h
 replace H := Option.bind_eq_some_iff.mp H
 obtain ⟨t307, A30, H⟩ := H
 replace H : (if t307 = true then (if a1 < 0 then (railplanref30_Power.j0 k l0 a1 true) else (railplanref30_Power.j0 k l0 a1 (decide (a1 > 3600)))) else (some (([] : List (List Int)), 1))) = some (r1, r2) := H
 have A3 := Aside0.mk A30
 clear A30
 by_cases c4 : t307 = true
 ·subst c4
  have H1 : (if a1 < 0 then (railplanref30_Power.j0 k l0 a1 true) else (railplanref30_Power.j0 k l0 a1 (decide (a1 > 3600)))) = some (r1, r2) := by rw [if_pos rfl] at H; exact H
  clear H
  have H := H1
  clear H1
  have HC5 := Aside0.mk H
  clear H
  go_enter Try.func29, Try.ntmps29
  go_upto_region 3 with (first | ((with_reducible refine gate_callee (f := 31) rfl ?_); refine goesL_ (some 10) rfl rfl Try.func31 (by kernel_rfl) rfl #[.slice A0 l0.length c0] rfl (by (try simp only [List.map_toArray, List.map_cons, List.map_nil]); first | done | rfl | (simp only [List.length_drop, List.length_take]; rfl)) ?_; (with_reducible refine (railplanref30_CheckMatrix.calls k _ _ l0 true _ ?side1 ?side2 A3.out).mono ?_); (case side1 => repeat (first | exact HR0.out | (with_reducible refine Kd.C_alloc ?_ _) | (with_reducible refine Kd.C_drewN ?_ _) | (with_reducible refine Kd.C_drew ?_))); (case side2 => exact HC0.out); rintro e w' ⟨rfl, ⟨nd, rfl⟩⟩; refine ⟨_, rfl, ?_⟩))
  (try simp only [Act.put, List.setIfInBounds_toArray, List.set_cons_zero, List.set_cons_succ])
  go_cut [17] (fun v17 wc => ∃ (kq : Nat) (x17_4 : Bool), v17 = .bool x17_4 ∧ Aside0 (railplanref30_Power.j0 kq l0 a1 x17_4 = some (r1, r2)) ∧ Aside0 (kq ≤ k) ∧ Aside0 (Below w.heap.size w wc))
  case first =>
   have H := HC5.out
   clear HC5
   by_cases c6 : a1 < 0
   ·rw [if_pos c6] at H
    have c6b0 : decide (a1 < 0) = true := decide_eq_true c6
    clear c6
    (first | rw [c6b0] | (simp only [i64_w, i32_w]; rw [c6b0]) | skip)
    have H' := Aside0.mk H
    clear H
    go_wp2
    go_meet
    case rel => exact ⟨_, (true), (by first | rfl | (simp; done) | (simp [*]; done)), H', ⟨by first | omega | exact Nat.le_refl _⟩, ⟨by repeat (first | (with_reducible first | exact HB.out | apply below_alloc | apply pw_below_drewN | apply below_drew1) | exact HB.out)⟩⟩
   ·rw [if_neg c6] at H
    have c6b0 : decide (a1 < 0) = false := decide_eq_false c6
    clear c6
    (first | rw [c6b0] | (simp only [i64_w, i32_w]; rw [c6b0]) | skip)
    have H' := Aside0.mk H
    clear H
    go_wp2
    go_meet
    case rel => exact ⟨_, (decide (a1 > 3600)), (by first | rfl | (simp; done) | (simp [*]; done)), H', ⟨by first | omega | exact Nat.le_refl _⟩, ⟨by repeat (first | (with_reducible first | exact HB.out | apply below_alloc | apply pw_below_drewN | apply below_drew1) | exact HB.out)⟩⟩
  case rest =>
   clear HC5
   try clear c2
   try clear p2
   try clear c3
   try clear c4
   try clear c6
   try clear c6b0
   obtain ⟨kq, x17_4, rfl, HA, HJ4, HB⟩ := hcut
   cases kq with
   | zero => exact absurd HA.out (by simp [railplanref30_Power.j0])
   | succ kj4 =>
    have H := HA.out
    clear HA
    simp only [railplanref30_Power.j0] at H
    by_cases c7 : x17_4 = true
    ·subst c7
     have H1 : (some (([] : List (List Int)), 4)) = some (r1, r2) := by rw [if_pos rfl] at H; exact H
     clear H
     have H := H1
     clear H1
     simp only [Option.some.injEq, Prod.mk.injEq] at H
     obtain ⟨rfl, rfl⟩ := H
     go_wp2
     go_ret2
     exact ⟨_, by first | rfl | (simp [errW_none, errW_some] <;> rfl) | (simp [*, errW_none, errW_some] <;> rfl), by first | exact Kd.S_nil _ _ _ _ _ | exact Kd.N_nil _ _ _ _ _ | exact Kd.V_nil _ _ _ _ _ | exact Kd.Q_nil _ _ _ _ _ | exact Kd.R_nil _ _ _ _ _, by repeat (first | (with_reducible first | exact HB.out | apply below_alloc | apply pw_below_drewN | apply below_drew1) | exact HB.out)⟩
    ·replace c7 := Bool.eq_false_iff.mpr c7
     subst c7
     have H1 : ((railplanref30_unit.f kj4 (l0.length : Int)).bind fun t308 => (railplanref30_Power.l0 kj4 l0 a1 t308)) = some (r1, r2) := by rw [if_neg (show ¬ (false = true) by decide)] at H; exact H
     clear H
     have H := H1
     clear H1
     replace H := Option.bind_eq_some_iff.mp H
     obtain ⟨t308, A80, H⟩ := H
     replace H : (railplanref30_Power.l0 kj4 l0 a1 t308) = some (r1, r2) := H
     have A8 := Aside0.mk A80
     clear A80
     have H' := Aside0.mk H
     clear H
     go_wp2_with (first | ((with_reducible refine gate_callee (f := 51) rfl ?_); refine goesL_ (some 20) rfl rfl Try.func51 (by kernel_rfl) rfl #[.int .i64 (l0.length : Int)] rfl (by (try simp only [List.map_toArray, List.map_cons, List.map_nil]); first | done | rfl | (simp only [List.length_drop, List.length_take]; rfl)) ?_; (with_reducible refine (railplanref30_unit.calls kj4 (l0.length : Int) t308 _ A8.out).mono ?_); rintro e w9 ⟨v309, rfl, ho0, hb⟩; refine ⟨_, rfl, ?_⟩; have n0_ := Aside0.mk (Kd.S_lower ho0 (below_size (by repeat (first | (with_reducible first | exact HB.out | apply below_alloc | apply pw_below_drewN | apply below_drew1) | exact HB.out)))); have n1_ := Aside0.mk (below_step (by repeat (first | (with_reducible first | exact HB.out | apply below_alloc | apply pw_below_drewN | apply below_drew1) | exact HB.out)) hb); clear HB; have HO310 := n0_; have HB := n1_; clear n0_ n1_; (try clear hb); (try clear hb2); (try clear hk); (try clear hi); (try clear ho0)))
     go_loopg [1, 6] kj4 (fun kq v1 v6 w' => ∃ (x1_2 : Int) (x6_2 : List (List Int)), v1 = .int .i64 x1_2 ∧ Aside0 (railplanref30_Power.l0 kq l0 x1_2 x6_2 = some (r1, r2)) ∧ Aside0 (kq ≤ kj4) ∧ Aside0 (Kd.S (Kd.slice 3 (Kd.int .i64)) 22 w' w.heap.size (fun _ => True) v6 x6_2) ∧ Aside0 (Below w.heap.size w w'))
     case atStart => exact ⟨(a1), (t308), (by first | rfl | (simp; done) | (simp [*]; done)), H', ⟨Nat.le_refl _⟩, ⟨by (with_reducible repeat (first | apply Kd.S_alloc | apply Kd.S_drewN | apply Kd.S_drew)); exact HO310.out⟩, ⟨by repeat (first | (with_reducible first | exact HB.out | apply below_alloc | apply pw_below_drewN | apply below_drew1) | exact HB.out)⟩⟩
     case round =>
      clear H'
      try clear c2
      try clear p2
      try clear c3
      try clear c4
      try clear c5
      try clear c6
      try clear c6b0
      try clear c7
      try clear p2
      obtain ⟨x1_2, x6_2, rfl, HA, HK2, HO_6, HB⟩ := hrel
      cases gk with
      | zero => exact absurd HA.out (by simp [railplanref30_Power.l0])
      | succ k2 =>
       have H := HA.out
       clear HA
       simp only [railplanref30_Power.l0] at H
       by_cases c10 : x1_2 > 0
       ·rw [if_pos c10] at H
        have c10b0 : decide (0 < x1_2) = true := decide_eq_true c10
        clear c10
        replace H := Option.bind_eq_some_iff.mp H
        obtain ⟨⟨t311, t312⟩, A110, H⟩ := H
        replace H : (if t312 = 0 then (railplanref30_Power.l0 k2 l0 (wrap64 (x1_2 - 1)) t311) else (some (([] : List (List Int)), t312))) = some (r1, r2) := H
        have A11 := Aside0.mk A110
        clear A110
        by_cases c12 : t312 = 0
        ·rw [if_pos c12] at H
         have c12b0 : (t312 == 0) = true := beq_iff_eq.mpr c12
         have c12b1 : (t312 != 0) = false := bne_eq_false_iff_eq.mpr c12
         clear c12
         have H' := Aside0.mk H
         clear H
         obtain ⟨Ao13, co13, eo13⟩ := Kd.S_slice HO_6.out
         subst eo13
         go_wp2_with (first | ((with_reducible refine gate_callee (f := 26) rfl ?_); refine goesL_ (some 28) rfl rfl Try.func26 (by kernel_rfl) rfl #[.slice Ao13 x6_2.length co13, .slice A0 l0.length c0] rfl (by (try simp only [List.map_toArray, List.map_cons, List.map_nil]); first | done | rfl | (simp only [List.length_drop, List.length_take]; rfl)) ?_; (with_reducible refine (railplanref30_Mul.calls k2 _ _ x6_2 _ _ l0 t311 t312 _ ?side1 ?side2 ?side3 ?side4 A11.out).mono ?_); (case side1 => repeat (first | exact (Kd.S_reads' HO_6.out).2.2 | (with_reducible refine Kd.C_alloc ?_ _) | (with_reducible refine Kd.C_drewN ?_ _) | (with_reducible refine Kd.C_drew ?_))); (case side2 => exact (Kd.S_reads' HO_6.out).2.1); (case side3 => repeat (first | exact (Kd.C_below HR0.out HB.out) | (with_reducible refine Kd.C_alloc ?_ _) | (with_reducible refine Kd.C_drewN ?_ _) | (with_reducible refine Kd.C_drew ?_))); (case side4 => exact HC0.out); rintro e w14 ⟨v313, rfl, ho0, hb⟩; refine ⟨_, rfl, ?_⟩; have n0_ := Aside0.mk (Kd.S_elder' (by (with_reducible repeat (first | apply Kd.S_alloc | apply Kd.S_drewN | apply Kd.S_drew)); exact HO_6.out) (by first | exact Kd.N_base ho0 | exact Kd.S_base ho0 | exact Kd.R_base ho0 | exact Kd.Q_base ho0) hb); have n1_ := Aside0.mk (Kd.S_lower (Kd.S_new' ho0 (Kd.S_lt (by (with_reducible repeat (first | apply Kd.S_alloc | apply Kd.S_drewN | apply Kd.S_drew)); exact HO_6.out))) (below_size (by repeat (first | (with_reducible first | exact HB.out | apply below_alloc | apply pw_below_drewN | apply below_drew1) | exact HB.out)))); have n2_ := Aside0.mk (below_step (by repeat (first | (with_reducible first | exact HB.out | apply below_alloc | apply pw_below_drewN | apply below_drew1) | exact HB.out)) hb); clear HO_6; clear HB; have HO_6 := n0_; have HO314 := n1_; have HB := n2_; clear n0_ n1_ n2_; (try clear hb); (try clear hb2); (try clear hk); (try clear hi); (try clear ho0)))
         go_roundg k2
         case measure => have := HJ4.out; have := HK2.out; omega
         case rel => exact ⟨(wrap64 (x1_2 - 1)), (t311), (by first | rfl | (simp; done) | (simp [*]; done)), H', ⟨by have := HJ4.out; have := HK2.out; omega⟩, ⟨by (with_reducible repeat (first | apply Kd.S_alloc | apply Kd.S_drewN | apply Kd.S_drew)); exact Kd.S_mono HO314.out (fun _ hk => trivial)⟩, ⟨by repeat (first | (with_reducible first | exact HB.out | apply below_alloc | apply pw_below_drewN | apply below_drew1) | exact HB.out)⟩⟩
        ·rw [if_neg c12] at H
         have c12b0 : (t312 == 0) = false := beq_eq_false_iff_ne.mpr c12
         have c12b1 : (t312 != 0) = true := bne_iff_ne.mpr c12
         simp only [Option.some.injEq, Prod.mk.injEq] at H
         obtain ⟨rfl, rfl⟩ := H
         obtain ⟨Ao15, co15, eo15⟩ := Kd.S_slice HO_6.out
         subst eo15
         go_wp2_with (first | ((with_reducible refine gate_callee (f := 26) rfl ?_); refine goesL_ (some 28) rfl rfl Try.func26 (by kernel_rfl) rfl #[.slice Ao15 x6_2.length co15, .slice A0 l0.length c0] rfl (by (try simp only [List.map_toArray, List.map_cons, List.map_nil]); first | done | rfl | (simp only [List.length_drop, List.length_take]; rfl)) ?_; (with_reducible refine (railplanref30_Mul.calls k2 _ _ x6_2 _ _ l0 t311 t312 _ ?side1 ?side2 ?side3 ?side4 A11.out).mono ?_); (case side1 => repeat (first | exact (Kd.S_reads' HO_6.out).2.2 | (with_reducible refine Kd.C_alloc ?_ _) | (with_reducible refine Kd.C_drewN ?_ _) | (with_reducible refine Kd.C_drew ?_))); (case side2 => exact (Kd.S_reads' HO_6.out).2.1); (case side3 => repeat (first | exact (Kd.C_below HR0.out HB.out) | (with_reducible refine Kd.C_alloc ?_ _) | (with_reducible refine Kd.C_drewN ?_ _) | (with_reducible refine Kd.C_drew ?_))); (case side4 => exact HC0.out); rintro e w16 ⟨v313, rfl, ho0, hb⟩; refine ⟨_, rfl, ?_⟩; have n0_ := Aside0.mk (Kd.S_elder' (by (with_reducible repeat (first | apply Kd.S_alloc | apply Kd.S_drewN | apply Kd.S_drew)); exact HO_6.out) (by first | exact Kd.N_base ho0 | exact Kd.S_base ho0 | exact Kd.R_base ho0 | exact Kd.Q_base ho0) hb); have n1_ := Aside0.mk (Kd.S_lower (Kd.S_new' ho0 (Kd.S_lt (by (with_reducible repeat (first | apply Kd.S_alloc | apply Kd.S_drewN | apply Kd.S_drew)); exact HO_6.out))) (below_size (by repeat (first | (with_reducible first | exact HB.out | apply below_alloc | apply pw_below_drewN | apply below_drew1) | exact HB.out)))); have n2_ := Aside0.mk (below_step (by repeat (first | (with_reducible first | exact HB.out | apply below_alloc | apply pw_below_drewN | apply below_drew1) | exact HB.out)) hb); clear HO_6; clear HB; have HO_6 := n0_; have HO314 := n1_; have HB := n2_; clear n0_ n1_ n2_; (try clear hb); (try clear hb2); (try clear hk); (try clear hi); (try clear ho0)))
         go_ret2
         exact ⟨_, by first | rfl | (simp [errW_none, errW_some] <;> rfl) | (simp [*, errW_none, errW_some] <;> rfl), by first | exact Kd.S_nil _ _ _ _ _ | exact Kd.N_nil _ _ _ _ _ | exact Kd.V_nil _ _ _ _ _ | exact Kd.Q_nil _ _ _ _ _ | exact Kd.R_nil _ _ _ _ _, by repeat (first | (with_reducible first | exact HB.out | apply below_alloc | apply pw_below_drewN | apply below_drew1) | exact HB.out)⟩
       ·rw [if_neg c10] at H
        have c10b0 : decide (0 < x1_2) = false := decide_eq_false c10
        clear c10
        simp only [Option.some.injEq, Prod.mk.injEq] at H
        obtain ⟨rfl, rfl⟩ := H
        go_wp2
        go_ret2
        exact ⟨_, by first | rfl | (simp [errW_none, errW_some] <;> rfl) | (simp [*, errW_none, errW_some] <;> rfl), by (with_reducible repeat (first | apply Kd.S_alloc | apply Kd.S_drewN | apply Kd.S_drew)); exact HO_6.out, by repeat (first | (with_reducible first | exact HB.out | apply below_alloc | apply pw_below_drewN | apply below_drew1) | exact HB.out)⟩
 ·replace c4 := Bool.eq_false_iff.mpr c4
  subst c4
  have H1 : (some (([] : List (List Int)), 1)) = some (r1, r2) := by rw [if_neg (show ¬ (false = true) by decide)] at H; exact H
  clear H
  have H := H1
  clear H1
  simp only [Option.some.injEq, Prod.mk.injEq] at H
  obtain ⟨rfl, rfl⟩ := H
  go_enter Try.func29, Try.ntmps29
  go_wp2_with (first | ((with_reducible refine gate_callee (f := 31) rfl ?_); refine goesL_ (some 10) rfl rfl Try.func31 (by kernel_rfl) rfl #[.slice A0 l0.length c0] rfl (by (try simp only [List.map_toArray, List.map_cons, List.map_nil]); first | done | rfl | (simp only [List.length_drop, List.length_take]; rfl)) ?_; (with_reducible refine (railplanref30_CheckMatrix.calls k _ _ l0 false _ ?side1 ?side2 A3.out).mono ?_); (case side1 => repeat (first | exact HR0.out | (with_reducible refine Kd.C_alloc ?_ _) | (with_reducible refine Kd.C_drewN ?_ _) | (with_reducible refine Kd.C_drew ?_))); (case side2 => exact HC0.out); rintro e w' ⟨rfl, ⟨nd, rfl⟩⟩; refine ⟨_, rfl, ?_⟩))
  go_ret2
  exact ⟨_, by first | rfl | (simp [errW_none, errW_some] <;> rfl) | (simp [*, errW_none, errW_some] <;> rfl), by first | exact Kd.S_nil _ _ _ _ _ | exact Kd.N_nil _ _ _ _ _ | exact Kd.V_nil _ _ _ _ _ | exact Kd.Q_nil _ _ _ _ _ | exact Kd.R_nil _ _ _ _ _, by repeat (first | (with_reducible first | exact HB.out | apply below_alloc | apply pw_below_drewN | apply below_drew1) | exact HB.out)⟩

end Go.Proofs.Ytnmhdeibjglhcaa.XAll
