-- This session's own text, written by wip/tools/xall.py after the form of the kit's print.
import Derived.Test.YtpioelilfhkfdaaXAllx0
namespace Go.Proofs.Ytpioelilfhkfdaa.XAll
open Go.RowKit Go.Proofs.YtpioelilfhkfdaaW.PrintWords Go.Proofs.YtpioelilfhkfdaaW.PrintLast Go.Proofs.YtpioelilfhkfdaaW.PrintMore
attribute [local go_sem] max2_int min2_int max_two min_two max_three min_three max_four min_four   -- for this text's walks alone
set_option linter.unusedVariables false
set_option linter.unusedSimpArgs false

/-! ### cycles_groups_find: function 82 -/
def cycles_groups_find.l0 : Nat → List Int → Int → Option (Int × List Int)
 | 0, _, _ => none
 | k + 1, x0, x1 => if 0 ≤ x1 then (if x1 < (x0.length : Int) then (if (rd x0 x1) = x1 then (some (x1, x0)) else (if 0 ≤ (rd x0 x1) then (if (rd x0 x1) < (x0.length : Int) then ((some (x0.set (x1 : Int).toNat (rd x0 (rd x0 x1)) : List Int)).bind fun y108 => (cycles_groups_find.l0 k y108 (rd y108 x1))) else (none)) else (none))) else (none)) else (none)
def cycles_groups_find.f (k : Nat) (l0 : List Int) (a1 : Int) : Option (Int × List Int) := cycles_groups_find.l0 k l0 a1
theorem cycles_groups_find.mono_l : ∀ k, (∀ y0 y1, LeO (cycles_groups_find.l0 k y0 y1) (cycles_groups_find.l0 (k + 1) y0 y1))
 | 0 => fun _ _ r h => by simp [cycles_groups_find.l0] at h
 | k + 1 => by
  have ih0 := cycles_groups_find.mono_l k
  ·intro y0 y1
   unfold cycles_groups_find.l0
   repeat' first
   | (with_reducible exact ih0 _ _)
   | (with_reducible exact LeO.refl _)
   | (with_reducible exact LeO.none _)
   | (with_reducible refine LeO.ite ?_ ?_)
   | (with_reducible refine LeO.bind ?_ (fun _ => ?_))
   | exact ih0 _ _
   | exact LeO.none _
   | refine LeO.ite ?_ ?_
   | refine LeO.bind ?_ (fun _ => ?_)
theorem cycles_groups_find.mono : ∀ a0 a1 k, LeO (cycles_groups_find.f k a0 a1) (cycles_groups_find.f (k + 1) a0 a1) := by
 intro a0 a1 k
 have ih0 := cycles_groups_find.mono_l k
 unfold cycles_groups_find.f
 repeat' first
   | (with_reducible exact ih0 _ _)
   | (with_reducible exact LeO.refl _)
   | (with_reducible exact LeO.none _)
   | (with_reducible refine LeO.ite ?_ ?_)
   | (with_reducible refine LeO.bind ?_ (fun _ => ?_))
   | exact ih0 _ _
   | exact LeO.none _
   | refine LeO.ite ?_ ?_
   | refine LeO.bind ?_ (fun _ => ?_)
set_option maxHeartbeats 8000000 in
set_option maxRecDepth 100000 in
theorem cycles_groups_find.calls (k : Nat) (P0_ : Nat → Prop) (u9000_ : Value) (l0 : List Int) (a1 : Int) (r1 : Int) (r2 : List Int) (w0 w : World) (hB : Below w0.heap.size w0 w) (ho0 : Kd.R (Kd.int .i64) 3 w w0.heap.size P0_ u9000_ l0) (h : cycles_groups_find.f k l0 a1 = some (r1, r2)) :
  Calls Try.prog 82 #[u9000_, .int .i64 a1] w fun e w' => e = .returned (.int .i64 r1) ∧ Kd.R (Kd.int .i64) 3 w' w0.heap.size (fun k_ => (P0_ k_ ∨ w.heap.size ≤ k_)) u9000_ r2 ∧ Below w0.heap.size w0 w' ∧ Kept w w' (fun k_ => P0_ k_) := by
 have HO0 := qo (show Kd.R (Kd.int .i64) 3 w w0.heap.size (fun k_ => (P0_ k_ ∨ w.heap.size ≤ k_)) u9000_ l0 from qy ho0 (fun k_ hk => (.inl hk)))
 have HK := qo (Kept.refl w (fun k_ => P0_ k_))
 have HW0 := qo hB.size
 have HB := qo hB
 clear hB
 have H : (cycles_groups_find.l0 k l0 a1) = some (r1, r2) := h
 clear h
 have H' := qo H
 clear H
 go_enter Try.func82, Try.ntmps82
 go_wp2
 go_loopg [1] k (fun kq v1 w' => ∃ (x0_1 : List Int) (x1_1 : Int), v1 = .int .i64 x1_1 ∧ Aside0 (cycles_groups_find.l0 kq x0_1 x1_1 = some (r1, r2)) ∧ Aside0 (kq ≤ k) ∧ Aside0 (Kd.R (Kd.int .i64) 3 w' w0.heap.size (fun k_ => (P0_ k_ ∨ w.heap.size ≤ k_)) u9000_ x0_1) ∧ Aside0 (Kept w w' (fun k_ => P0_ k_)) ∧ Aside0 (Below w0.heap.size w0 w'))
 case atStart => exact ⟨(l0), (a1), (by first | rfl | (simp; done) | (simp [*]; done)), H', ⟨Nat.le_refl _⟩, ⟨by (with_reducible repeat (first | apply qh | apply qg | apply qi)); exact HO0.out⟩, ⟨by repeat (first | (with_reducible first | exact HK.out | apply Kept.alloc | apply Kept.drewN | apply Kept.drew) | exact HK.out)⟩, ⟨by repeat (first | (with_reducible first | exact HB.out | apply qc | apply qb | apply qd) | exact HB.out)⟩⟩
 case round =>
  clear H'
  try clear p2
  obtain ⟨x0_1, x1_1, rfl, HA, HK1, HO_0, HK, HB⟩ := hrel
  cases gk with
  | zero => exact absurd HA.out (by simp [cycles_groups_find.l0])
  | succ k1 =>
   have H := HA.out
   clear HA
   simp only [cycles_groups_find.l0] at H
   by_cases c3 : 0 ≤ x1_1
   ·rw [if_pos c3] at H
    have c3b0 : decide (0 ≤ x1_1) = true := qac c3
    clear c3
    by_cases c4 : x1_1 < (x0_1.length : Int)
    ·rw [if_pos c4] at H
     have c4b0 : decide (x1_1 < (x0_1.length : Int)) = true := qac c4
     clear c4
     by_cases c5 : (rd x0_1 x1_1) = x1_1
     ·rw [if_pos c5] at H
      have c5b0 : ((rd x0_1 x1_1) == x1_1) = true := beq_iff_eq.mpr c5
      have c5b1 : ((rd x0_1 x1_1) != x1_1) = false := bne_eq_false_iff_eq.mpr c5
      clear c5
      simp only [Option.some.injEq, Prod.mk.injEq] at H
      obtain ⟨rfl, rfl⟩ := H
      obtain ⟨Ao6, co6, eo6⟩ := qak HO_0.out
      subst eo6
      have p105 : 0 ≤ (x1_1 : Int) := qq (by first | (with_reducible assumption) | assumption)
      have q105 : x1_1 < (x0_1.length : Int) := qq (by first | (with_reducible assumption) | assumption)
      obtain ⟨ad105, e105, hx105_0⟩ := Kd.at_int (qr HO_0.out).2.2 x1_1 p105 q105
      cases e105
      replace p105 := eq_true p105
      replace q105 := eq_true q105
      go_wp2
      go_ret
      exact ⟨by first | rfl | (simp [errW_none, errW_some] <;> rfl) | (simp [*, errW_none, errW_some] <;> rfl), by (with_reducible repeat (first | apply qh | apply qg | apply qi)); exact HO_0.out, by repeat (first | (with_reducible first | exact HB.out | apply qc | apply qb | apply qd) | exact HB.out), by repeat (first | (with_reducible first | exact HK.out | apply Kept.alloc | apply Kept.drewN | apply Kept.drew) | exact HK.out)⟩
     ·rw [if_neg c5] at H
      have c5b0 : ((rd x0_1 x1_1) == x1_1) = false := beq_eq_false_iff_ne.mpr c5
      have c5b1 : ((rd x0_1 x1_1) != x1_1) = true := bne_iff_ne.mpr c5
      by_cases c7 : 0 ≤ (rd x0_1 x1_1)
      ·rw [if_pos c7] at H
       have c7b0 : decide (0 ≤ (rd x0_1 x1_1)) = true := qac c7
       clear c7
       by_cases c8 : (rd x0_1 x1_1) < (x0_1.length : Int)
       ·rw [if_pos c8] at H
        have c8b0 : decide ((rd x0_1 x1_1) < (x0_1.length : Int)) = true := qac c8
        clear c8
        obtain ⟨y108, hy108⟩ : ∃ y_ : List Int, y_ = (x0_1.set (x1_1 : Int).toNat (rd x0_1 (rd x0_1 x1_1))) := ⟨_, rfl⟩
        replace H : (cycles_groups_find.l0 k1 y108 (rd y108 x1_1)) = some (r1, r2) := by first | (rw [hy108]; with_reducible exact H) | (have H2_ := (Option.bind_some _ _).symm.trans H; rw [hy108]; with_reducible exact H2_) | (have H2_ := (Option.bind_some _ _).symm.trans H; with_reducible exact H2_) | with_reducible exact H | (rw [hy108]; exact H) | exact H
        have Ny108 := qo hy108
        clear hy108
        have H' := qo H
        clear H
        obtain ⟨Ao10, co10, eo10⟩ := qak HO_0.out
        subst eo10
        have p105 : 0 ≤ (x1_1 : Int) := qq (by first | (with_reducible assumption) | assumption)
        have q105 : x1_1 < (x0_1.length : Int) := qq (by first | (with_reducible assumption) | assumption)
        obtain ⟨ad105, e105, hx105_0⟩ := Kd.at_int (qr HO_0.out).2.2 x1_1 p105 q105
        cases e105
        replace p105 := eq_true p105
        replace q105 := eq_true q105
        have p106 : 0 ≤ (x1_1 : Int) := qq (by first | (with_reducible assumption) | assumption)
        have q106 : x1_1 < (x0_1.length : Int) := qq (by first | (with_reducible assumption) | assumption)
        obtain ⟨ad106, e106, hx106_0⟩ := Kd.at_int (qr HO_0.out).2.2 x1_1 p106 q106
        obtain rfl : ad105 = ad106 := (by injection e106)
        replace p106 := eq_true p106
        replace q106 := eq_true q106
        have p107 : 0 ≤ ((rd x0_1 x1_1) : Int) := qq (by first | (with_reducible assumption) | assumption)
        have q107 : (rd x0_1 x1_1) < (x0_1.length : Int) := qq (by first | (with_reducible assumption) | assumption)
        obtain ⟨ad107, e107, hx107_0⟩ := Kd.at_int (qr HO_0.out).2.2 (rd x0_1 x1_1) p107 q107
        obtain rfl : ad105 = ad107 := (by injection e107)
        replace p107 := eq_true p107
        replace q107 := eq_true q107
        have p9 : 0 ≤ (x1_1 : Int) := qq (by first | (with_reducible assumption) | assumption)
        have q9 : (x1_1 : Int) < ((x0_1.length : Int) : Int) := qq (by first | (with_reducible assumption) | assumption)
        obtain ⟨go9, co9, eo9, gb9, gl9, cl9, HG9⟩ := Kd.R_form HO_0.out (by first | omega | (have e_ := (qr HO_0.out).1; omega))
        (first | cases eo9 | (injection eo9 with ea_ en_ ec_; (first | subst ea_ | (injection ea_ with ea_; subst ea_)); subst ec_; clear en_))
        have GB9 := qo gb9
        have GG9 := qo HG9
        clear gb9 gl9 HG9
        have HMgo9 := qo (show (P0_ go9 ∨ w.heap.size ≤ go9) from (HO_0.out.1 _ rfl))
        (first | simp only [add_plain] at hx105_0 | skip)
        (first | simp only [add_plain] at hx106_0 | skip)
        (first | simp only [add_plain] at hx107_0 | skip)
        obtain ⟨hx9_0, hf9_0⟩ := Kd.R_celln 0 HO_0.out (x1_1 : Int) p9 q9
        replace p9 := eq_true p9
        replace q9 := eq_true q9
        have HP11 := Kd.R_putg HO_0.out (x1_1 : Int) (rd x0_1 (rd x0_1 x1_1))
        go_wp2_with (first | ((with_reducible refine gate_store (t := 3) (p := 20) rfl ?_); refine store_event (t := 3) (p := 20) (v := ?vo_w12) (w1 := (wr.setCell ⟨go9, (x1_1 : Int).toNat, none⟩ (.int .i64 (rd x0_1 (rd x0_1 x1_1))))) ?hg ?ho ?hn ?hr ?_; (case ho => rfl); (case hg => rfl); (case hn => rfl); (case hr => first | (go_simp; done) | (go_simp; rfl)); intro w12 hw; have hg : wr.grownBy w12 (some go9) := (by rw [hw]; exact HP11.2); have hp_ : Kd.R (Kd.int .i64) 3 w12 w0.heap.size (fun k_ => (P0_ k_ ∨ w.heap.size ≤ k_)) (.slice (some ⟨go9, 0, none⟩) x0_1.length co10) y108 := (by rw [hw, Ny108.out]; exact HP11.1); clear HP11; have n0_ := qo (hp_); have n1_ := qo ((by rw [hw]; exact qn (HB.out) GB9.out : Below w0.heap.size w0 w12)); have n2_ := qo (Kept.of_grown (S := (fun k_ => P0_ k_)) hg (by repeat (first | (with_reducible first | exact HK.out | apply Kept.alloc | apply Kept.drewN | apply Kept.drew) | exact HK.out)) (fun k_ e_ => (HO_0.out.1 k_ e_))); clear HO_0; clear HB; clear HK; have HO_0 := n0_; have HB := n1_; have HK := n2_; clear n0_ n1_ n2_; clear hg hw hp_; have p109 : 0 ≤ (x1_1 : Int) := qq (by first | (with_reducible assumption) | assumption); have q109 : x1_1 < (y108.length : Int) := (by have h_ : (x1_1 : Int) < ((x0_1.length : Int) : Int) := qq (by first | (with_reducible assumption) | assumption); first | (have e_ := (qr HO_0.out).1; omega) | simpa only [Ny108.out, List.length_set] using h_); have ql109 : ((x1_1 : Int) < ((x0_1.length : Int) : Int)) = True := eq_true (qq (by first | (with_reducible assumption) | assumption)); obtain ⟨ad109, e109, hx109_0⟩ := Kd.at_int (qr HO_0.out).2.2 x1_1 p109 q109; obtain rfl : (⟨go9, 0, none⟩ : Addr) = ad109 := (by injection e109); (first | simp only [add_plain] at hx109_0 | simp only [add_at] at hx109_0 | simp only [Addr.add, Nat.zero_add] at hx109_0 | skip); replace p109 := eq_true p109; replace q109 := eq_true q109))
        go_roundg k1
        case measure => have := HK1.out; omega
        case rel => exact ⟨(y108), (rd y108 x1_1), (by first | rfl | (simp; done) | (simp [*]; done)), H', ⟨by have := HK1.out; omega⟩, ⟨by (with_reducible repeat (first | apply qh | apply qg | apply qi)); exact HO_0.out⟩, ⟨by repeat (first | (with_reducible first | exact HK.out | apply Kept.alloc | apply Kept.drewN | apply Kept.drew) | exact HK.out)⟩, ⟨by repeat (first | (with_reducible first | exact HB.out | apply qc | apply qb | apply qd) | exact HB.out)⟩⟩
       ·rw [if_neg c8] at H
        exact absurd H (by simp)
      ·rw [if_neg c7] at H
       exact absurd H (by simp)
    ·rw [if_neg c4] at H
     exact absurd H (by simp)
   ·rw [if_neg c3] at H
    exact absurd H (by simp)

/-! ### cycles_groups_merge: function 81 -/
def cycles_groups_merge.f (k : Nat) (l0 : List Int) (a1 : Int) (a2 : Int) : Option (Bool × List Int) := (cycles_groups_find.f k l0 a1).bind fun bt110 => ((cycles_groups_find.f k bt110.2 a2).bind fun bt112 => (if 0 ≤ (mx bt110.1 bt112.1) then (if (mx bt110.1 bt112.1) < (l0.length : Int) then (some ((bt110.1 != bt112.1), (bt112.2.set ((mx bt110.1 bt112.1) : Int).toNat (mn bt110.1 bt112.1)))) else (none)) else (none)))
theorem cycles_groups_merge.mono : ∀ a0 a1 a2 k, LeO (cycles_groups_merge.f k a0 a1 a2) (cycles_groups_merge.f (k + 1) a0 a1 a2) := by
 intro a0 a1 a2 k
 unfold cycles_groups_merge.f
 repeat' first
   | (with_reducible exact cycles_groups_find.mono _ _ _)
   | (with_reducible exact LeO.refl _)
   | (with_reducible exact LeO.none _)
   | (with_reducible refine LeO.ite ?_ ?_)
   | (with_reducible refine LeO.bind ?_ (fun _ => ?_))
   | exact cycles_groups_find.mono _ _ _
   | exact LeO.none _
   | refine LeO.ite ?_ ?_
   | refine LeO.bind ?_ (fun _ => ?_)
set_option maxHeartbeats 8000000 in
set_option maxRecDepth 100000 in
theorem cycles_groups_merge.calls (k : Nat) (P0_ : Nat → Prop) (u9000_ : Value) (l0 : List Int) (a1 : Int) (a2 : Int) (r1 : Bool) (r2 : List Int) (w0 w : World) (hB : Below w0.heap.size w0 w) (ho0 : Kd.R (Kd.int .i64) 3 w w0.heap.size P0_ u9000_ l0) (h : cycles_groups_merge.f k l0 a1 a2 = some (r1, r2)) :
  Calls Try.prog 81 #[u9000_, .int .i64 a1, .int .i64 a2] w fun e w' => e = .returned (.bool r1) ∧ Kd.R (Kd.int .i64) 3 w' w0.heap.size (fun k_ => (P0_ k_ ∨ w.heap.size ≤ k_)) u9000_ r2 ∧ Below w0.heap.size w0 w' ∧ Kept w w' (fun k_ => P0_ k_) := by
 have HO0 := qo (show Kd.R (Kd.int .i64) 3 w w0.heap.size (fun k_ => (P0_ k_ ∨ w.heap.size ≤ k_)) u9000_ l0 from qy ho0 (fun k_ hk => (.inl hk)))
 have HK := qo (Kept.refl w (fun k_ => P0_ k_))
 have HW0 := qo hB.size
 have HB := qo hB
 clear hB
 have H : ((cycles_groups_find.f k l0 a1).bind fun bt110 => ((cycles_groups_find.f k bt110.2 a2).bind fun bt112 => (if 0 ≤ (mx bt110.1 bt112.1) then (if (mx bt110.1 bt112.1) < (l0.length : Int) then (some ((bt110.1 != bt112.1), (bt112.2.set ((mx bt110.1 bt112.1) : Int).toNat (mn bt110.1 bt112.1)))) else (none)) else (none)))) = some (r1, r2) := h
 clear h
 replace H := Option.bind_eq_some_iff.mp H
 obtain ⟨⟨t110, t111⟩, A40, H⟩ := H
 replace H : ((cycles_groups_find.f k t111 a2).bind fun bt112 => (if 0 ≤ (mx t110 bt112.1) then (if (mx t110 bt112.1) < (l0.length : Int) then (some ((t110 != bt112.1), (bt112.2.set ((mx t110 bt112.1) : Int).toNat (mn t110 bt112.1)))) else (none)) else (none))) = some (r1, r2) := H
 have A4 := qo A40
 clear A40
 replace H := Option.bind_eq_some_iff.mp H
 obtain ⟨⟨t112, t113⟩, A50, H⟩ := H
 replace H : (if 0 ≤ (mx t110 t112) then (if (mx t110 t112) < (l0.length : Int) then (some ((t110 != t112), (t113.set ((mx t110 t112) : Int).toNat (mn t110 t112)))) else (none)) else (none)) = some (r1, r2) := H
 have A5 := qo A50
 clear A50
 obtain ⟨ji6, hji6⟩ : ∃ j_ : Int, (mx t110 t112) = j_ := ⟨_, rfl⟩
 replace H : (if 0 ≤ (ji6) then (if (ji6) < (l0.length : Int) then (some ((t110 != t112), (t113.set ((ji6) : Int).toNat (mn t110 t112)))) else (none)) else (none)) = some (r1, r2) := by first | (rw [hji6] at H; exact H) | (simp only [hji6] at H ⊢; exact H)
 (try rw [hji6] at A4)
 (try rw [hji6] at A5)
 have hji6_ : (if t110 < t112 then t112 else t110) = ji6 := hji6
 obtain ⟨ji7, hji7⟩ : ∃ j_ : Int, (mn t110 t112) = j_ := ⟨_, rfl⟩
 replace H : (if 0 ≤ (ji6) then (if (ji6) < (l0.length : Int) then (some ((t110 != t112), (t113.set ((ji6) : Int).toNat (ji7)))) else (none)) else (none)) = some (r1, r2) := by first | (rw [hji7] at H; exact H) | (simp only [hji7] at H ⊢; exact H)
 (try rw [hji7] at A4)
 (try rw [hji7] at A5)
 have hji7_ : (if t112 < t110 then t112 else t110) = ji7 := hji7
 by_cases c8 : 0 ≤ (ji6)
 ·rw [if_pos c8] at H
  have c8b0 : decide (0 ≤ (ji6)) = true := qac c8
  clear c8
  by_cases c9 : (ji6) < (l0.length : Int)
  ·rw [if_pos c9] at H
   have c9b0 : decide ((ji6) < (l0.length : Int)) = true := qac c9
   clear c9
   obtain ⟨y114, hy114⟩ : ∃ y_ : List Int, y_ = (t113.set ((ji6) : Int).toNat (ji7)) := ⟨_, rfl⟩
   replace H : (some ((t110 != t112), y114)) = some (r1, r2) := by first | (rw [hy114]; with_reducible exact H) | (have H2_ := (Option.bind_some _ _).symm.trans H; rw [hy114]; with_reducible exact H2_) | (have H2_ := (Option.bind_some _ _).symm.trans H; with_reducible exact H2_) | with_reducible exact H | (rw [hy114]; exact H) | exact H
   have Ny114 := qo hy114
   clear hy114
   simp only [Option.some.injEq, Prod.mk.injEq] at H
   obtain ⟨rfl, rfl⟩ := H
   obtain ⟨Ao11, co11, eo11⟩ := qak HO0.out
   subst eo11
   go_enter Try.func81, Try.ntmps81
   go_wp2_with (first | ((with_reducible refine gate_callee (f := 82) rfl ?_); refine goesL_ (some 9) rfl rfl Try.func82 (by kernel_rfl) rfl #[.slice Ao11 l0.length co11, .int .i64 a1] rfl (by (try simp only [List.map_toArray, List.map_cons, List.map_nil]); first | done | rfl | (simp only [List.length_drop, List.length_take]; rfl)) ?_; (with_reducible refine (cycles_groups_find.calls k (fun k_ => some k_ = (.slice Ao11 l0.length co11 : Value).ownBlock) (.slice Ao11 l0.length co11) l0 a1 t110 t111 w0 _ ?side1 ?side2 A4.out).mono ?_); (case side1 => repeat (first | (with_reducible first | exact HB.out | apply qc | apply qb | apply qd) | exact HB.out)); (case side2 => exact Kd.R_tight rfl HO0.out); rintro e w12 ⟨rfl, hy0, hb, hkp⟩; refine ⟨_, rfl, ?_⟩; have n0_ := qo (Kd.R_reok rfl hy0 (fun k_ e_ => HO0.out.1 k_ e_)); have n1_ := qo (Kept.then_ (S := (fun k_ => P0_ k_)) (by repeat (first | (with_reducible first | exact HK.out | apply Kept.alloc | apply Kept.drewN | apply Kept.drew) | exact HK.out)) hkp (fun k_ hs_ => (fun e_ => (HO0.out.1 k_ e_.symm)) hs_)); have n2_ := qo (hb); clear HO0; clear HK; clear HB; have HO0 := n0_; have HK := n1_; have HB := n2_; clear n0_ n1_ n2_; (try clear hb); (try clear hkp); (try clear hy0)) | ((with_reducible refine gate_callee (f := 82) rfl ?_); refine goesL_ (some 12) rfl rfl Try.func82 (by kernel_rfl) rfl #[.slice Ao11 l0.length co11, .int .i64 a2] rfl (by (try simp only [List.map_toArray, List.map_cons, List.map_nil]); first | done | rfl | (simp only [List.length_drop, List.length_take]; rfl)) ?_; (with_reducible refine (cycles_groups_find.calls k (fun k_ => some k_ = (.slice Ao11 l0.length co11 : Value).ownBlock) (.slice Ao11 l0.length co11) t111 a2 t112 t113 w0 _ ?side1 ?side2 A5.out).mono ?_); (case side1 => repeat (first | (with_reducible first | exact HB.out | apply qc | apply qb | apply qd) | exact HB.out)); (case side2 => exact Kd.R_tight rfl HO0.out); rintro e w13 ⟨rfl, hy0, hb, hkp⟩; refine ⟨_, rfl, ?_⟩; have n0_ := qo (Kd.R_reok rfl hy0 (fun k_ e_ => HO0.out.1 k_ e_)); have n1_ := qo (Kept.then_ (S := (fun k_ => P0_ k_)) (by repeat (first | (with_reducible first | exact HK.out | apply Kept.alloc | apply Kept.drewN | apply Kept.drew) | exact HK.out)) hkp (fun k_ hs_ => (fun e_ => (HO0.out.1 k_ e_.symm)) hs_)); have n2_ := qo (hb); clear HO0; clear HK; clear HB; have HO0 := n0_; have HK := n1_; have HB := n2_; clear n0_ n1_ n2_; (try clear hb); (try clear hkp); (try clear hy0); have p10 : 0 ≤ ((ji6) : Int) := qq (by first | (with_reducible assumption) | assumption); have q10 : ((ji6) : Int) < ((l0.length : Int) : Int) := qq (by first | (with_reducible assumption) | assumption); obtain ⟨go10, co10, eo10, gb10, gl10, cl10, HG10⟩ := Kd.R_form HO0.out (by first | omega | (have e_ := (qr HO0.out).1; omega)); (first | cases eo10 | (injection eo10 with ea_ en_ ec_; (first | subst ea_ | (injection ea_ with ea_; subst ea_)); subst ec_; clear en_)); have GB10 := qo gb10; have GG10 := qo HG10; clear gb10 gl10 HG10; have HMgo10 := qo (show (P0_ go10 ∨ w.heap.size ≤ go10) from (HO0.out.1 _ rfl)); obtain ⟨hx10_0, hf10_0⟩ := Kd.R_celln 0 HO0.out ((ji6) : Int) p10 q10; replace p10 := eq_true p10; replace q10 := eq_true q10; obtain ⟨hy14_, hz14_⟩ := Kd.R_celln 0 HO0.out ((ji6) : Int) (qq (by first | (with_reducible assumption) | assumption)) (qq (by first | (with_reducible assumption) | assumption)); have HP14 := Kd.R_putg HO0.out ((ji6) : Int) ji7) | ((with_reducible refine gate_store (t := 3) (p := 20) rfl ?_); refine store_event (t := 3) (p := 20) (v := ?vo_w15) (w1 := (w13.setCell ⟨go10, ((ji6) : Int).toNat, none⟩ (.int .i64 ji7))) ?hg ?ho ?hn ?hr ?_; (case ho => rfl); (case hg => rfl); (case hn => rfl); (case hr => first | (go_simp; done) | (go_simp; rfl)); intro w15 hw; have hg : w13.grownBy w15 (some go10) := (by rw [hw]; exact HP14.2); have hp_ : Kd.R (Kd.int .i64) 3 w15 w0.heap.size (fun k_ => (P0_ k_ ∨ w.heap.size ≤ k_)) (.slice (some ⟨go10, 0, none⟩) l0.length co11) y114 := (by rw [hw, Ny114.out]; exact HP14.1); clear HP14; have n0_ := qo (hp_); have n1_ := qo ((by rw [hw]; exact qn (HB.out) GB10.out : Below w0.heap.size w0 w15)); have n2_ := qo (Kept.of_grown (S := (fun k_ => P0_ k_)) hg (by repeat (first | (with_reducible first | exact HK.out | apply Kept.alloc | apply Kept.drewN | apply Kept.drew) | exact HK.out)) (fun k_ e_ => (HO0.out.1 k_ e_))); clear HO0; clear HB; clear HK; have HO0 := n0_; have HB := n1_; have HK := n2_; clear n0_ n1_ n2_; clear hg hw hp_))
   go_ret
   exact ⟨by first | rfl | (simp [errW_none, errW_some] <;> rfl) | (simp only [← hji6, ← hji7]; first | rfl | (simp [errW_none, errW_some] <;> rfl)) | (simp [*, errW_none, errW_some] <;> rfl), by (with_reducible repeat (first | apply qh | apply qg | apply qi)); exact HO0.out, by repeat (first | (with_reducible first | exact HB.out | apply qc | apply qb | apply qd) | exact HB.out), by repeat (first | (with_reducible first | exact HK.out | apply Kept.alloc | apply Kept.drewN | apply Kept.drew) | exact HK.out)⟩
  ·rw [if_neg c9] at H
   exact absurd H (by simp)
 ·rw [if_neg c8] at H
  exact absurd H (by simp)

end Go.Proofs.Ytpioelilfhkfdaa.XAll
