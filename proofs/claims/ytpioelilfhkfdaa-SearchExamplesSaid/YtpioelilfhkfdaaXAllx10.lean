-- This session's own text, written by wip/tools/xall.py after the form of the kit's print.
import Derived.Test.YtpioelilfhkfdaaXAllx0
namespace Go.Proofs.Ytpioelilfhkfdaa.XAll
open Go.RowKit Go.Proofs.YtpioelilfhkfdaaW.PrintWords Go.Proofs.YtpioelilfhkfdaaW.PrintLast Go.Proofs.YtpioelilfhkfdaaW.PrintMore
attribute [local go_sem] max2_int min2_int max_two min_two max_three min_three max_four min_four   -- for this text's walks alone
set_option linter.unusedVariables false
set_option linter.unusedSimpArgs false

/-! ### cycles_groups_find: function 82 -/
def cycles_groups_find.l0 : Nat → List Int → Int → Option (Int × List Int)
 | 0, _, _ => none
 | k + 1, x0, x1 => if 0 ≤ x1 then (if x1 < (x0.length : Int) then (if (rd x0 x1) = x1 then (some (x1, x0)) else (if 0 ≤ (rd x0 x1) then (if (rd x0 x1) < (x0.length : Int) then ((some (x0.set (x1 : Int).toNat (rd x0 (rd x0 x1)) : List Int)).bind fun y147 => (cycles_groups_find.l0 k y147 (rd y147 x1))) else (none)) else (none))) else (none)) else (none)
def cycles_groups_find.f (k : Nat) (l0 : List Int) (a1 : Int) : Option (Int × List Int) := cycles_groups_find.l0 k l0 a1
theorem cycles_groups_find.mono_l : ∀ k, (∀ y0 y1, LeO (cycles_groups_find.l0 k y0 y1) (cycles_groups_find.l0 (k + 1) y0 y1))
 | 0 => fun _ _ r h => by simp [cycles_groups_find.l0] at h
 | k + 1 => by
  have ih0 := cycles_groups_find.mono_l k
  ·intro y0 y1
   unfold cycles_groups_find.l0
   repeat' first
   | (with_reducible exact ih0 _ _)
   | (with_reducible exact LeO.refl _)
   | (with_reducible exact LeO.none _)
   | (with_reducible refine LeO.ite ?_ ?_)
   | (with_reducible refine LeO.bind ?_ (fun _ => ?_))
   | exact ih0 _ _
   | exact LeO.none _
   | refine LeO.ite ?_ ?_
   | refine LeO.bind ?_ (fun _ => ?_)
theorem cycles_groups_find.mono : ∀ a0 a1 k, LeO (cycles_groups_find.f k a0 a1) (cycles_groups_find.f (k + 1) a0 a1) := by
 intro a0 a1 k
 have ih0 := cycles_groups_find.mono_l k
 unfold cycles_groups_find.f
 repeat' first
   | (with_reducible exact ih0 _ _)
   | (with_reducible exact LeO.refl _)
   | (with_reducible exact LeO.none _)
   | (with_reducible refine LeO.ite ?_ ?_)
   | (with_reducible refine LeO.bind ?_ (fun _ => ?_))
   | exact ih0 _ _
   | exact LeO.none _
   | refine LeO.ite ?_ ?_
   | refine LeO.bind ?_ (fun _ => ?_)
set_option maxHeartbeats 8000000 in
set_option maxRecDepth 100000 in
theorem cycles_groups_find.calls (k : Nat) (P0_ : Nat → Prop) (u9000_ : Value) (l0 : List Int) (a1 : Int) (r1 : Int) (r2 : List Int) (w0 w : World) (hB : Below w0.heap.size w0 w) (ho0 : Kd.R (Kd.int .i64) 3 w w0.heap.size P0_ u9000_ l0) (h : cycles_groups_find.f k l0 a1 = some (r1, r2)) :
  Calls Try.prog 82 #[u9000_, .int .i64 a1] w fun e w' => e = .returned (.int .i64 r1) ∧ Kd.R (Kd.int .i64) 3 w' w0.heap.size (fun k_ => (P0_ k_ ∨ w.heap.size ≤ k_)) u9000_ r2 ∧ Below w0.heap.size w0 w' ∧ Kept w w' (fun k_ => P0_ k_) := by
 have HO0 := Aside0.mk (show Kd.R (Kd.int .i64) 3 w w0.heap.size (fun k_ => (P0_ k_ ∨ w.heap.size ≤ k_)) u9000_ l0 from Kd.R_mono ho0 (fun k_ hk => (.inl hk)))
 have HK := Aside0.mk (Kept.refl w (fun k_ => P0_ k_))
 have HW0 := Aside0.mk hB.size
 have HB := Aside0.mk hB
 clear hB
 have H : (cycles_groups_find.l0 k l0 a1) = some (r1, r2) := h
 clear h
 have H' := Aside0.mk H
 clear H
 go_enter Try.func82, Try.ntmps82
 go_wp2
 go_loopg [1] k (fun kq v1 w' => ∃ (x0_1 : List Int) (x1_1 : Int), v1 = .int .i64 x1_1 ∧ Aside0 (cycles_groups_find.l0 kq x0_1 x1_1 = some (r1, r2)) ∧ Aside0 (kq ≤ k) ∧ Aside0 (Kd.R (Kd.int .i64) 3 w' w0.heap.size (fun k_ => (P0_ k_ ∨ w.heap.size ≤ k_)) u9000_ x0_1) ∧ Aside0 (Kept w w' (fun k_ => P0_ k_)) ∧ Aside0 (Below w0.heap.size w0 w'))
 case atStart => exact ⟨(l0), (a1), (by first | rfl | (simp; done) | (simp [*]; done)), H', ⟨Nat.le_refl _⟩, ⟨by (with_reducible repeat (first | apply Kd.R_alloc | apply Kd.R_drewN | apply Kd.R_drew)); exact HO0.out⟩, ⟨by repeat (first | (with_reducible first | exact HK.out | apply Kept.alloc | apply Kept.drewN | apply Kept.drew) | exact HK.out)⟩, ⟨by repeat (first | (with_reducible first | exact HB.out | apply below_alloc | apply pw_below_drewN | apply below_drew1) | exact HB.out)⟩⟩
 case round =>
  clear H'
  try clear p2
  obtain ⟨x0_1, x1_1, rfl, HA, HK1, HO_0, HK, HB⟩ := hrel
  cases gk with
  | zero => exact absurd HA.out (by simp [cycles_groups_find.l0])
  | succ k1 =>
   have H := HA.out
   clear HA
   simp only [cycles_groups_find.l0] at H
   by_cases c3 : 0 ≤ x1_1
   ·rw [if_pos c3] at H
    have c3b0 : decide (0 ≤ x1_1) = true := decide_eq_true c3
    clear c3
    by_cases c4 : x1_1 < (x0_1.length : Int)
    ·rw [if_pos c4] at H
     have c4b0 : decide (x1_1 < (x0_1.length : Int)) = true := decide_eq_true c4
     clear c4
     by_cases c5 : (rd x0_1 x1_1) = x1_1
     ·rw [if_pos c5] at H
      have c5b0 : ((rd x0_1 x1_1) == x1_1) = true := beq_iff_eq.mpr c5
      have c5b1 : ((rd x0_1 x1_1) != x1_1) = false := bne_eq_false_iff_eq.mpr c5
      clear c5
      simp only [Option.some.injEq, Prod.mk.injEq] at H
      obtain ⟨rfl, rfl⟩ := H
      obtain ⟨Ao6, co6, eo6⟩ := Kd.R_slice HO_0.out
      subst eo6
      have p144 : 0 ≤ (x1_1 : Int) := of_decide_eq_true (by first | (with_reducible assumption) | assumption)
      have q144 : x1_1 < (x0_1.length : Int) := of_decide_eq_true (by first | (with_reducible assumption) | assumption)
      obtain ⟨ad144, e144, hx144_0⟩ := Kd.at_int (Kd.R_reads' HO_0.out).2.2 x1_1 p144 q144
      cases e144
      replace p144 := eq_true p144
      replace q144 := eq_true q144
      go_wp2
      go_ret
      exact ⟨by first | rfl | (simp [errW_none, errW_some] <;> rfl) | (simp [*, errW_none, errW_some] <;> rfl), by (with_reducible repeat (first | apply Kd.R_alloc | apply Kd.R_drewN | apply Kd.R_drew)); exact HO_0.out, by repeat (first | (with_reducible first | exact HB.out | apply below_alloc | apply pw_below_drewN | apply below_drew1) | exact HB.out), by repeat (first | (with_reducible first | exact HK.out | apply Kept.alloc | apply Kept.drewN | apply Kept.drew) | exact HK.out)⟩
     ·rw [if_neg c5] at H
      have c5b0 : ((rd x0_1 x1_1) == x1_1) = false := beq_eq_false_iff_ne.mpr c5
      have c5b1 : ((rd x0_1 x1_1) != x1_1) = true := bne_iff_ne.mpr c5
      by_cases c7 : 0 ≤ (rd x0_1 x1_1)
      ·rw [if_pos c7] at H
       have c7b0 : decide (0 ≤ (rd x0_1 x1_1)) = true := decide_eq_true c7
       clear c7
       by_cases c8 : (rd x0_1 x1_1) < (x0_1.length : Int)
       ·rw [if_pos c8] at H
        have c8b0 : decide ((rd x0_1 x1_1) < (x0_1.length : Int)) = true := decide_eq_true c8
        clear c8
        obtain ⟨y147, hy147⟩ : ∃ y_ : List Int, y_ = (x0_1.set (x1_1 : Int).toNat (rd x0_1 (rd x0_1 x1_1))) := ⟨_, rfl⟩
        replace H : (cycles_groups_find.l0 k1 y147 (rd y147 x1_1)) = some (r1, r2) := by first | (rw [hy147]; with_reducible exact H) | (have H2_ := (Option.bind_some _ _).symm.trans H; rw [hy147]; with_reducible exact H2_) | (have H2_ := (Option.bind_some _ _).symm.trans H; with_reducible exact H2_) | with_reducible exact H | (rw [hy147]; exact H) | exact H
        have Ny147 := Aside0.mk hy147
        clear hy147
        have H' := Aside0.mk H
        clear H
        obtain ⟨Ao10, co10, eo10⟩ := Kd.R_slice HO_0.out
        subst eo10
        have p144 : 0 ≤ (x1_1 : Int) := of_decide_eq_true (by first | (with_reducible assumption) | assumption)
        have q144 : x1_1 < (x0_1.length : Int) := of_decide_eq_true (by first | (with_reducible assumption) | assumption)
        obtain ⟨ad144, e144, hx144_0⟩ := Kd.at_int (Kd.R_reads' HO_0.out).2.2 x1_1 p144 q144
        cases e144
        replace p144 := eq_true p144
        replace q144 := eq_true q144
        have p145 : 0 ≤ (x1_1 : Int) := of_decide_eq_true (by first | (with_reducible assumption) | assumption)
        have q145 : x1_1 < (x0_1.length : Int) := of_decide_eq_true (by first | (with_reducible assumption) | assumption)
        obtain ⟨ad145, e145, hx145_0⟩ := Kd.at_int (Kd.R_reads' HO_0.out).2.2 x1_1 p145 q145
        obtain rfl : ad144 = ad145 := (by injection e145)
        replace p145 := eq_true p145
        replace q145 := eq_true q145
        have p146 : 0 ≤ ((rd x0_1 x1_1) : Int) := of_decide_eq_true (by first | (with_reducible assumption) | assumption)
        have q146 : (rd x0_1 x1_1) < (x0_1.length : Int) := of_decide_eq_true (by first | (with_reducible assumption) | assumption)
        obtain ⟨ad146, e146, hx146_0⟩ := Kd.at_int (Kd.R_reads' HO_0.out).2.2 (rd x0_1 x1_1) p146 q146
        obtain rfl : ad144 = ad146 := (by injection e146)
        replace p146 := eq_true p146
        replace q146 := eq_true q146
        have p9 : 0 ≤ (x1_1 : Int) := of_decide_eq_true (by first | (with_reducible assumption) | assumption)
        have q9 : (x1_1 : Int) < ((x0_1.length : Int) : Int) := of_decide_eq_true (by first | (with_reducible assumption) | assumption)
        obtain ⟨go9, co9, eo9, gb9, gl9, cl9, HG9⟩ := Kd.R_form HO_0.out (by first | omega | (have e_ := (Kd.R_reads' HO_0.out).1; omega))
        (first | cases eo9 | (injection eo9 with ea_ en_ ec_; (first | subst ea_ | (injection ea_ with ea_; subst ea_)); subst ec_; clear en_))
        have GB9 := Aside0.mk gb9
        have GG9 := Aside0.mk HG9
        clear gb9 gl9 HG9
        have HMgo9 := Aside0.mk (show (P0_ go9 ∨ w.heap.size ≤ go9) from (HO_0.out.1 _ rfl))
        (first | simp only [add_plain] at hx144_0 | skip)
        (first | simp only [add_plain] at hx145_0 | skip)
        (first | simp only [add_plain] at hx146_0 | skip)
        obtain ⟨hx9_0, hf9_0⟩ := Kd.R_celln 0 HO_0.out (x1_1 : Int) p9 q9
        replace p9 := eq_true p9
        replace q9 := eq_true q9
        have HP11 := Kd.R_putg HO_0.out (x1_1 : Int) (rd x0_1 (rd x0_1 x1_1))
        go_wp2_with (first | ((with_reducible refine gate_store (t := 3) (p := 20) rfl ?_); refine store_event (t := 3) (p := 20) (v := ?vo_w12) (w1 := (wr.setCell ⟨go9, (x1_1 : Int).toNat, none⟩ (.int .i64 (rd x0_1 (rd x0_1 x1_1))))) ?hg ?ho ?hn ?hr ?_; (case ho => rfl); (case hg => rfl); (case hn => rfl); (case hr => first | (go_simp; done) | (go_simp; rfl)); intro w12 hw; have hg : wr.grownBy w12 (some go9) := (by rw [hw]; exact HP11.2); have hp_ : Kd.R (Kd.int .i64) 3 w12 w0.heap.size (fun k_ => (P0_ k_ ∨ w.heap.size ≤ k_)) (.slice (some ⟨go9, 0, none⟩) x0_1.length co10) y147 := (by rw [hw, Ny147.out]; exact HP11.1); clear HP11; have n0_ := Aside0.mk (hp_); have n1_ := Aside0.mk ((by rw [hw]; exact below_set (HB.out) GB9.out : Below w0.heap.size w0 w12)); have n2_ := Aside0.mk (Kept.of_grown (S := (fun k_ => P0_ k_)) hg (by repeat (first | (with_reducible first | exact HK.out | apply Kept.alloc | apply Kept.drewN | apply Kept.drew) | exact HK.out)) (fun k_ e_ => (HO_0.out.1 k_ e_))); clear HO_0; clear HB; clear HK; have HO_0 := n0_; have HB := n1_; have HK := n2_; clear n0_ n1_ n2_; clear hg hw hp_; have p148 : 0 ≤ (x1_1 : Int) := of_decide_eq_true (by first | (with_reducible assumption) | assumption); have q148 : x1_1 < (y147.length : Int) := (by have h_ : (x1_1 : Int) < ((x0_1.length : Int) : Int) := of_decide_eq_true (by first | (with_reducible assumption) | assumption); first | (have e_ := (Kd.R_reads' HO_0.out).1; omega) | simpa only [Ny147.out, List.length_set] using h_); have ql148 : ((x1_1 : Int) < ((x0_1.length : Int) : Int)) = True := eq_true (of_decide_eq_true (by first | (with_reducible assumption) | assumption)); obtain ⟨ad148, e148, hx148_0⟩ := Kd.at_int (Kd.R_reads' HO_0.out).2.2 x1_1 p148 q148; obtain rfl : (⟨go9, 0, none⟩ : Addr) = ad148 := (by injection e148); (first | simp only [add_plain] at hx148_0 | simp only [add_at] at hx148_0 | simp only [Addr.add, Nat.zero_add] at hx148_0 | skip); replace p148 := eq_true p148; replace q148 := eq_true q148))
        go_roundg k1
        case measure => have := HK1.out; omega
        case rel => exact ⟨(y147), (rd y147 x1_1), (by first | rfl | (simp; done) | (simp [*]; done)), H', ⟨by have := HK1.out; omega⟩, ⟨by (with_reducible repeat (first | apply Kd.R_alloc | apply Kd.R_drewN | apply Kd.R_drew)); exact HO_0.out⟩, ⟨by repeat (first | (with_reducible first | exact HK.out | apply Kept.alloc | apply Kept.drewN | apply Kept.drew) | exact HK.out)⟩, ⟨by repeat (first | (with_reducible first | exact HB.out | apply below_alloc | apply pw_below_drewN | apply below_drew1) | exact HB.out)⟩⟩
       ·rw [if_neg c8] at H
        exact absurd H (by simp)
      ·rw [if_neg c7] at H
       exact absurd H (by simp)
    ·rw [if_neg c4] at H
     exact absurd H (by simp)
   ·rw [if_neg c3] at H
    exact absurd H (by simp)

end Go.Proofs.Ytpioelilfhkfdaa.XAll
