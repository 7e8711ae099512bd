-- This session's own text, written by wip/tools/xprint.py after the form of the kit's print.
import Derived.Test.YtfnpoalffpnllaaXDynamicsLevelIsSymmetricx0
import Derived.Test.YtfnpoalffpnllaaXDynamicsLevelIsSymmetricx1
import Derived.Test.YtfnpoalffpnllaaXDynamicsLevelIsSymmetricx2
namespace Go.Proofs.Ytfnpoalffpnllaa.XDynamicsLevelIsSymmetric
open Go.RowKit Go.Proofs.YtfnpoalffpnllaaW.PrintWords Go.Proofs.YtfnpoalffpnllaaW.PrintLast Go.Proofs.YtfnpoalffpnllaaW.PrintMore
attribute [local go_sem] max2_int min2_int max_two min_two max_three min_three max_four min_four   -- for this text's walks alone
set_option linter.unusedVariables false
set_option linter.unusedSimpArgs false

/-! ### railplanlaw6_plain: function 18 -/
def railplanlaw6_plain.l0 : Nat → Int → List (S34) → Int → Option ((List (S34)))
  | 0, _, _, _ => none
  | k + 1, x0, x3, x4 => if x4 < x0 then (if x3.length < 8796093022208 then (railplanlaw6_plain.l0 k x0 (x3 ++ [(⟨30000, 0⟩ : S34)]) (wrap64 (x4 + 1))) else (none)) else (some x3)
def railplanlaw6_plain.f (k : Nat) (a0 : Int) : Option ((List (S34))) := railplanlaw6_plain.l0 k a0 ([] : List (S34)) 0
theorem railplanlaw6_plain.mono_l : ∀ k, (∀ y0 y1 y2, LeO (railplanlaw6_plain.l0 k y0 y1 y2) (railplanlaw6_plain.l0 (k + 1) y0 y1 y2))
  | 0 => fun _ _ _ r h => by simp [railplanlaw6_plain.l0] at h
  | k + 1 => by
    have ih0 := railplanlaw6_plain.mono_l k
    · intro y0 y1 y2
      unfold railplanlaw6_plain.l0
      repeat' first
      | (with_reducible exact ih0 _ _ _)
      | (with_reducible exact LeO.refl _)
      | (with_reducible exact LeO.none _)
      | (with_reducible refine LeO.ite ?_ ?_)
      | (with_reducible refine LeO.bind ?_ (fun _ => ?_))
      | exact ih0 _ _ _
      | exact LeO.none _
      | refine LeO.ite ?_ ?_
      | refine LeO.bind ?_ (fun _ => ?_)
theorem railplanlaw6_plain.mono : ∀ a0 k, LeO (railplanlaw6_plain.f k a0) (railplanlaw6_plain.f (k + 1) a0) := by
  intro a0 k
  have ih0 := railplanlaw6_plain.mono_l k
  unfold railplanlaw6_plain.f
  repeat' first
      | (with_reducible exact ih0 _ _ _)
      | (with_reducible exact LeO.refl _)
      | (with_reducible exact LeO.none _)
      | (with_reducible refine LeO.ite ?_ ?_)
      | (with_reducible refine LeO.bind ?_ (fun _ => ?_))
      | exact ih0 _ _ _
      | exact LeO.none _
      | refine LeO.ite ?_ ?_
      | refine LeO.bind ?_ (fun _ => ?_)
set_option maxHeartbeats 8000000 in
set_option maxRecDepth 100000 in
theorem railplanlaw6_plain.calls (k : Nat) (a0 : Int) (r : List (S34)) (w : World) (h : railplanlaw6_plain.f k a0 = some r) :
    Calls Try.prog 18 #[.int .i64 a0] w fun e w' => ∃ v0_ : Value, e = .returned (v0_) ∧ Kd.R k34 34 w' w.heap.size (fun _ => True) v0_ r ∧ Below w.heap.size w w' := by
  have hu34 := Try.underlying34
  have HB := Aside0.mk (Below.refl w.heap.size w)
  have H : (railplanlaw6_plain.l0 k a0 ([] : List (S34)) 0) = some r := h
  clear h
  have H' := Aside0.mk H
  clear H
  go_enter Try.func18, Try.ntmps18
  go_wp2
  go_loopg [3, 4] k (fun kq v3 v4 w' => ∃ (x3_1 : List (S34)) (x4_1 : Int), v4 = .int .i64 x4_1 ∧ Aside0 (railplanlaw6_plain.l0 kq a0 x3_1 x4_1 = some r) ∧ Aside0 (kq ≤ k) ∧ Aside0 (Kd.R k34 34 w' w.heap.size (fun _ => True) v3 x3_1) ∧ Aside0 (Below w.heap.size w w'))
  case atStart => exact ⟨(([] : List (S34))), (0), (by first | rfl | (simp; done) | (simp [*]; done)), H', ⟨Nat.le_refl _⟩, ⟨by first | exact Kd.R_nil _ _ _ _ _ | exact Kd.N_nil _ _ _ _ _ | exact Kd.V_nil _ _ _ _ _ | exact Kd.Q_nil _ _ _ _ _ | exact Kd.S_nil _ _ _ _ _⟩, ⟨by repeat (first | (with_reducible first | exact HB.out | apply below_alloc | apply pw_below_drewN | apply below_drew1) | exact HB.out)⟩⟩
  case round =>
    clear H'
    try clear c1
    obtain ⟨x3_1, x4_1, rfl, HA, HK1, HO_3, HB⟩ := hrel
    cases gk with
    | zero => exact absurd HA.out (by simp [railplanlaw6_plain.l0])
    | succ k1 =>
      have H := HA.out
      clear HA
      simp only [railplanlaw6_plain.l0] at H
      by_cases c2 : x4_1 < a0
      · rw [if_pos c2] at H
        have c2b0 : decide (x4_1 < a0) = true := decide_eq_true c2
        clear c2
        by_cases c3 : x3_1.length < 8796093022208
        · rw [if_pos c3] at H
          have LMc3 := Aside0.mk c3
          clear c3
          obtain ⟨y157, hy157⟩ : ∃ y_ : List (S34), y_ = (x3_1 ++ [(⟨30000, 0⟩ : S34)]) := ⟨_, rfl⟩
          replace H : (railplanlaw6_plain.l0 k1 a0 y157 (wrap64 (x4_1 + 1))) = some r := by first | (rw [hy157]; with_reducible exact H) | (have H2_ := (Option.bind_some _ _).symm.trans H; rw [hy157]; with_reducible exact H2_) | (have H2_ := (Option.bind_some _ _).symm.trans H; with_reducible exact H2_) | with_reducible exact H | (rw [hy157]; exact H) | exact H
          have Ny157 := Aside0.mk hy157
          clear hy157
          have H' := Aside0.mk H
          clear H
          go_wp2_with (first | ((with_reducible refine gate_builtin (b := .append) (xs := #[.tmp 10, .tmp 12]) rfl ?_); at_builtin; refine Kd.R_append k34 (w0 := w) w.heap.size rfl (.tmp 10) (.tmp 12) 23 34 (.agg #[(.int .i64 0), (.int .i64 0)]) 16 rfl Try.underlying23 info34 rfl (by decide) (by omega) u3 x3_1 (⟨30000, 0⟩ : S34) [.int .i64 30000, .int .i64 0] (fun _ => True) (fun _ => False) rfl rfl ?aP (fun _ hk => hk.elim) ?aF ?aO ?aB ?aS ?aL ?_; (case aP => exact k34_mkM _ _ _ (⟨30000, 0⟩ : S34)); (case aB => exact (by repeat (first | (with_reducible first | exact HB.out | apply below_alloc | apply pw_below_drewN | apply below_drew1) | exact HB.out))); (case aF => exact (fun _ _ => trivial)); (case aO => exact (by (with_reducible repeat (first | apply Kd.R_alloc | apply Kd.R_drewN | apply Kd.R_drew)); exact HO_3.out)); (case aS => exact (below_size (by repeat (first | (with_reducible first | exact HB.out | apply below_alloc | apply pw_below_drewN | apply below_drew1) | exact HB.out)))); (case aL => have := LMc3.out; omega); intro v158 w4 ho hb hg hat; rw [← Ny157.out] at ho; have n0_ := Aside0.mk (hb); have n1_ := Aside0.mk (ho); clear HB; clear HO_3; have HB := n0_; have HO159 := n1_; clear n0_ n1_; clear ho hb hg hat))
          go_roundg k1
          case measure => have := HK1.out; omega
          case rel => exact ⟨(y157), (wrap64 (x4_1 + 1)), (by first | rfl | (simp; done) | (simp [*]; done)), H', ⟨by have := HK1.out; omega⟩, ⟨by (with_reducible repeat (first | apply Kd.R_alloc | apply Kd.R_drewN | apply Kd.R_drew)); exact HO159.out⟩, ⟨by repeat (first | (with_reducible first | exact HB.out | apply below_alloc | apply pw_below_drewN | apply below_drew1) | exact HB.out)⟩⟩
        · rw [if_neg c3] at H
          exact absurd H (by simp)
      · rw [if_neg c2] at H
        have c2b0 : decide (x4_1 < a0) = false := decide_eq_false c2
        clear c2
        obtain rfl := Option.some.inj H
        go_wp2
        go_ret
        exact ⟨_, by first | rfl | (simp [errW_none, errW_some] <;> rfl) | (simp [*, errW_none, errW_some] <;> rfl), by (with_reducible repeat (first | apply Kd.R_alloc | apply Kd.R_drewN | apply Kd.R_drew)); exact HO_3.out, by repeat (first | (with_reducible first | exact HB.out | apply below_alloc | apply pw_below_drewN | apply below_drew1) | exact HB.out)⟩

/-! ### railplanlaw6_DynamicsLevelIsSymmetric: function 4 -/
mutual
def railplanlaw6_DynamicsLevelIsSymmetric.j0 : Nat → List Int → Bool → Option (Bool)
  | 0, _, _ => none
  | k + 1, x7, x34 => if x34 = true then (some false) else (railplanlaw6_DynamicsLevelIsSymmetric.l0 k x7 (x7.length : Int) 0)
def railplanlaw6_DynamicsLevelIsSymmetric.l0 : Nat → List Int → Int → Int → Option (Bool)
  | 0, _, _, _ => none
  | k + 1, x7, x36, x37 => if x37 < x36 then (if 0 ≤ x37 then (if x37 < (x7.length : Int) then (if 0 ≤ (wrap64 ((wrap64 ((x7.length : Int) - 1)) - x37)) then (if (wrap64 ((wrap64 ((x7.length : Int) - 1)) - x37)) < (x7.length : Int) then (if (rd x7 x37) = (rd x7 (wrap64 ((wrap64 ((x7.length : Int) - 1)) - x37))) then (railplanlaw6_DynamicsLevelIsSymmetric.l0 k x7 x36 (wrap64 (x37 + 1))) else (some false)) else (none)) else (none)) else (none)) else (none)) else (if 1 < (x7.length : Int) then (some (decide ((rd x7 1) > 0))) else (none))
end
def railplanlaw6_DynamicsLevelIsSymmetric.f (k : Nat) (a0 : Int) (l1 : List Int) : Option (Bool) := (railplankeep_Stock.f l1).bind fun bt160 => ((railplankeep_Pick.f a0 60).bind fun t166 => ((railplanlaw6_plain.f k (wrap64 (2 + t166))).bind fun t167 => ((dynamics_Speeds.f k t167 0 bt160.1 bt160.2.1 bt160.2.2.1 bt160.2.2.2.1 bt160.2.2.2.1).bind fun bt170 => (if bt170.2 = 0 then (railplanlaw6_DynamicsLevelIsSymmetric.j0 k bt170.1 ((bt170.1.length : Int) != (wrap64 ((t167.length : Int) + 1)))) else (railplanlaw6_DynamicsLevelIsSymmetric.j0 k bt170.1 true)))))
theorem railplanlaw6_DynamicsLevelIsSymmetric.mono_l : ∀ k, (∀ y0 y1, LeO (railplanlaw6_DynamicsLevelIsSymmetric.j0 k y0 y1) (railplanlaw6_DynamicsLevelIsSymmetric.j0 (k + 1) y0 y1)) ∧ (∀ y0 y1 y2, LeO (railplanlaw6_DynamicsLevelIsSymmetric.l0 k y0 y1 y2) (railplanlaw6_DynamicsLevelIsSymmetric.l0 (k + 1) y0 y1 y2))
  | 0 => ⟨fun _ _ r h => by simp [railplanlaw6_DynamicsLevelIsSymmetric.j0] at h, fun _ _ _ r h => by simp [railplanlaw6_DynamicsLevelIsSymmetric.l0] at h⟩
  | k + 1 => by
    obtain ⟨ih0, ih1⟩ := railplanlaw6_DynamicsLevelIsSymmetric.mono_l k
    refine ⟨?_, ?_⟩
    · intro y0 y1
      unfold railplanlaw6_DynamicsLevelIsSymmetric.j0
      repeat' first
      | (with_reducible exact ih0 _ _)
      | (with_reducible exact ih1 _ _ _)
      | (with_reducible exact dynamics_Speeds.mono _ _ _ _ _ _ _ _)
      | (with_reducible exact railplanlaw6_plain.mono _ _)
      | (with_reducible exact LeO.refl _)
      | (with_reducible exact LeO.none _)
      | (with_reducible refine LeO.ite ?_ ?_)
      | (with_reducible refine LeO.bind ?_ (fun _ => ?_))
      | exact ih0 _ _
      | exact ih1 _ _ _
      | exact dynamics_Speeds.mono _ _ _ _ _ _ _ _
      | exact railplanlaw6_plain.mono _ _
      | exact LeO.none _
      | refine LeO.ite ?_ ?_
      | refine LeO.bind ?_ (fun _ => ?_)
    · intro y0 y1 y2
      unfold railplanlaw6_DynamicsLevelIsSymmetric.l0
      repeat' first
      | (with_reducible exact ih0 _ _)
      | (with_reducible exact ih1 _ _ _)
      | (with_reducible exact dynamics_Speeds.mono _ _ _ _ _ _ _ _)
      | (with_reducible exact railplanlaw6_plain.mono _ _)
      | (with_reducible exact LeO.refl _)
      | (with_reducible exact LeO.none _)
      | (with_reducible refine LeO.ite ?_ ?_)
      | (with_reducible refine LeO.bind ?_ (fun _ => ?_))
      | exact ih0 _ _
      | exact ih1 _ _ _
      | exact dynamics_Speeds.mono _ _ _ _ _ _ _ _
      | exact railplanlaw6_plain.mono _ _
      | exact LeO.none _
      | refine LeO.ite ?_ ?_
      | refine LeO.bind ?_ (fun _ => ?_)
theorem railplanlaw6_DynamicsLevelIsSymmetric.mono : ∀ a0 a1 k, LeO (railplanlaw6_DynamicsLevelIsSymmetric.f k a0 a1) (railplanlaw6_DynamicsLevelIsSymmetric.f (k + 1) a0 a1) := by
  intro a0 a1 k
  obtain ⟨ih0, ih1⟩ := railplanlaw6_DynamicsLevelIsSymmetric.mono_l k
  unfold railplanlaw6_DynamicsLevelIsSymmetric.f
  repeat' first
      | (with_reducible exact ih0 _ _)
      | (with_reducible exact ih1 _ _ _)
      | (with_reducible exact dynamics_Speeds.mono _ _ _ _ _ _ _ _)
      | (with_reducible exact railplanlaw6_plain.mono _ _)
      | (with_reducible exact LeO.refl _)
      | (with_reducible exact LeO.none _)
      | (with_reducible refine LeO.ite ?_ ?_)
      | (with_reducible refine LeO.bind ?_ (fun _ => ?_))
      | exact ih0 _ _
      | exact ih1 _ _ _
      | exact dynamics_Speeds.mono _ _ _ _ _ _ _ _
      | exact railplanlaw6_plain.mono _ _
      | exact LeO.none _
      | refine LeO.ite ?_ ?_
      | refine LeO.bind ?_ (fun _ => ?_)
set_option maxHeartbeats 8000000 in
set_option maxRecDepth 100000 in
theorem railplanlaw6_DynamicsLevelIsSymmetric.calls (k : Nat) (a0 : Int) (A1 : Option Addr) (c1 : Nat) (l1 : List Int) (r : Bool) (w : World) (hr1 : Kd.C (Kd.int .i64) w A1 l1.length l1) (hc1 : l1.length ≤ c1) (h : railplanlaw6_DynamicsLevelIsSymmetric.f k a0 l1 = some r) :
    Calls Try.prog 4 #[.int .i64 a0, .slice A1 l1.length c1] w fun e w' => e = .returned (.bool r) ∧ Below w.heap.size w w' := by
  have hu26 := Try.underlying26
  have HR1 := Aside0.mk hr1
  have HC1 := Aside0.mk hc1
  clear hr1 hc1
  have HB := Aside0.mk (Below.refl w.heap.size w)
  have H : ((railplankeep_Stock.f l1).bind fun bt160 => ((railplankeep_Pick.f a0 60).bind fun t166 => ((railplanlaw6_plain.f k (wrap64 (2 + t166))).bind fun t167 => ((dynamics_Speeds.f k t167 0 bt160.1 bt160.2.1 bt160.2.2.1 bt160.2.2.2.1 bt160.2.2.2.1).bind fun bt170 => (if bt170.2 = 0 then (railplanlaw6_DynamicsLevelIsSymmetric.j0 k bt170.1 ((bt170.1.length : Int) != (wrap64 ((t167.length : Int) + 1)))) else (railplanlaw6_DynamicsLevelIsSymmetric.j0 k bt170.1 true)))))) = some r := h
  clear h
  replace H := Option.bind_eq_some_iff.mp H
  obtain ⟨⟨t160, t161, t162, t163, t164⟩, A30, H⟩ := H
  replace H : ((railplankeep_Pick.f a0 60).bind fun t166 => ((railplanlaw6_plain.f k (wrap64 (2 + t166))).bind fun t167 => ((dynamics_Speeds.f k t167 0 t160 t161 t162 t163 t163).bind fun bt170 => (if bt170.2 = 0 then (railplanlaw6_DynamicsLevelIsSymmetric.j0 k bt170.1 ((bt170.1.length : Int) != (wrap64 ((t167.length : Int) + 1)))) else (railplanlaw6_DynamicsLevelIsSymmetric.j0 k bt170.1 true))))) = some r := H
  have A3 := Aside0.mk A30
  clear A30
  replace H := Option.bind_eq_some_iff.mp H
  obtain ⟨t166, A40, H⟩ := H
  replace H : ((railplanlaw6_plain.f k (wrap64 (2 + t166))).bind fun t167 => ((dynamics_Speeds.f k t167 0 t160 t161 t162 t163 t163).bind fun bt170 => (if bt170.2 = 0 then (railplanlaw6_DynamicsLevelIsSymmetric.j0 k bt170.1 ((bt170.1.length : Int) != (wrap64 ((t167.length : Int) + 1)))) else (railplanlaw6_DynamicsLevelIsSymmetric.j0 k bt170.1 true)))) = some r := H
  have A4 := Aside0.mk A40
  clear A40
  replace H := Option.bind_eq_some_iff.mp H
  obtain ⟨t167, A50, H⟩ := H
  replace H : ((dynamics_Speeds.f k t167 0 t160 t161 t162 t163 t163).bind fun bt170 => (if bt170.2 = 0 then (railplanlaw6_DynamicsLevelIsSymmetric.j0 k bt170.1 ((bt170.1.length : Int) != (wrap64 ((t167.length : Int) + 1)))) else (railplanlaw6_DynamicsLevelIsSymmetric.j0 k bt170.1 true))) = some r := H
  have A5 := Aside0.mk A50
  clear A50
  replace H := Option.bind_eq_some_iff.mp H
  obtain ⟨⟨t170, t173⟩, A60, H⟩ := H
  replace H : (if t173 = 0 then (railplanlaw6_DynamicsLevelIsSymmetric.j0 k t170 ((t170.length : Int) != (wrap64 ((t167.length : Int) + 1)))) else (railplanlaw6_DynamicsLevelIsSymmetric.j0 k t170 true)) = some r := H
  have A6 := Aside0.mk A60
  clear A60
  have HC7 := Aside0.mk H
  clear H
  go_enter Try.func4, Try.ntmps4
  go_upto_region 5 with (first | (go_at_call 14; (with_reducible refine (railplankeep_Stock.calls _ _ l1 t160 t161 t162 t163 t164 _ ?side1 ?side2 A3.out).mono ?_); (case side1 => repeat (first | exact HR1.out | (with_reducible refine Kd.C_alloc ?_ _) | (with_reducible refine Kd.C_drewN ?_ _) | (with_reducible refine Kd.C_drew ?_))); (case side2 => exact HC1.out); rintro e w8 ⟨rfl, hb⟩; have n0_ := Aside0.mk (below_step (by repeat (first | (with_reducible first | exact HB.out | apply below_alloc | apply pw_below_drewN | apply below_drew1) | exact HB.out)) hb); clear HB; have HB := n0_; clear n0_; (try clear hb); (try clear hb2); (try clear hk); (try clear hi)) | ((with_reducible refine gate_dst (N := 5) rfl ?_); (try (refine gate_guard (by rfl) ?_; dsimp only)); refine box_event ?hg (N := 5) ?hd (cs := #[.string (⟨#[]⟩ : ByteArray), .int .i64 0, .int .i64 0, .int .i64 0, .int .i64 0]) (t := 26) ?hr ?_; (case hd => rfl); (case hg => rfl); (case hr => first | (go_simp; done) | (go_simp; rfl)); intro gb165 hg w9 hbox hb; have n0_ := Aside0.mk (below_step (by repeat (first | (with_reducible first | exact HB.out | apply below_alloc | apply pw_below_drewN | apply below_drew1) | exact HB.out)) hb); have n1_ := Aside0.mk (hbox); have n2_ := Aside0.mk ((by rw [hg]; exact (below_size (by repeat (first | (with_reducible first | exact HB.out | apply below_alloc | apply pw_below_drewN | apply below_drew1) | exact HB.out))) : w.heap.size ≤ gb165)); have n3_ := Aside0.mk ((by rw [hg]; exact (below_size (by repeat (first | (with_reducible first | exact HB.out | apply below_alloc | apply pw_below_drewN | apply below_drew1) | exact HB.out))) : w.heap.size ≤ gb165)); clear HB; have HB := n0_; have BK165 := n1_; have GW165 := n2_; have GE165 := n3_; clear n0_ n1_ n2_ n3_; clear hb hbox hg; have hcz10_0 : w9.cell? ⟨gb165, 0, none⟩ = some (.string (⟨#[]⟩ : ByteArray)) := (blk_cell BK165.out 0).trans rfl; have hcz10_1 : w9.cell? ⟨gb165, 1, none⟩ = some (.int .i64 0) := (blk_cell BK165.out 1).trans rfl; have hcz10_2 : w9.cell? ⟨gb165, 2, none⟩ = some (.int .i64 0) := (blk_cell BK165.out 2).trans rfl; have hcz10_3 : w9.cell? ⟨gb165, 3, none⟩ = some (.int .i64 0) := (blk_cell BK165.out 3).trans rfl; have hcz10_4 : w9.cell? ⟨gb165, 4, none⟩ = some (.int .i64 0) := (blk_cell BK165.out 4).trans rfl; have hfz10_0 := blk_frozen BK165.out 0; have hfz10_1 := blk_frozen BK165.out 1; have hfz10_2 := blk_frozen BK165.out 2; have hfz10_3 := blk_frozen BK165.out 3; have hfz10_4 := blk_frozen BK165.out 4) | (go_at_call 16; (with_reducible refine (railplankeep_Pick.calls a0 60 t166 _ A4.out).mono ?_); rintro e w' ⟨rfl, ⟨nd, rfl⟩⟩; (try first | exact ⟨rfl, _, World.drewN_drewN _ _ _⟩ | exact ⟨rfl, _, Eq.trans (World.drewN_drewN _ _ _) (congrArg (World.drewN _) (Nat.add_assoc _ _ _))⟩)) | (go_at_call 18; (with_reducible refine (railplanlaw6_plain.calls k (wrap64 (2 + t166)) t167 _ A5.out).mono ?_); rintro e w11 ⟨v168, rfl, ho0, hb⟩; have n0_ := Aside0.mk (Kd.R_lower ho0 (below_size (by repeat (first | (with_reducible first | exact HB.out | apply below_alloc | apply pw_below_drewN | apply below_drew1 | refine below_set ?_ GE165.out) | exact HB.out)))); have n1_ := Aside0.mk (blk_below (g := gb165) (o := .cells #[.string t160, .int .i64 t161, .int .i64 t162, .int .i64 t163, .int .i64 t163] 26 (0, 0)) (by (with_reducible repeat (first | refine blk_drewN ?_ _ | refine blk_drew ?_ | refine blk_alloc ?_ _)); refine blk_put (cs := #[.string t160, .int .i64 t161, .int .i64 t162, .int .i64 t163, .int .i64 t164]) ?_ 4 _ rfl; (with_reducible repeat (first | refine blk_drewN ?_ _ | refine blk_drew ?_ | refine blk_alloc ?_ _)); refine blk_put (cs := #[.string t160, .int .i64 t161, .int .i64 t162, .int .i64 t163, .int .i64 0]) ?_ 4 _ rfl; (with_reducible repeat (first | refine blk_drewN ?_ _ | refine blk_drew ?_ | refine blk_alloc ?_ _)); refine blk_put (cs := #[.string t160, .int .i64 t161, .int .i64 t162, .int .i64 0, .int .i64 0]) ?_ 3 _ rfl; (with_reducible repeat (first | refine blk_drewN ?_ _ | refine blk_drew ?_ | refine blk_alloc ?_ _)); refine blk_put (cs := #[.string t160, .int .i64 t161, .int .i64 0, .int .i64 0, .int .i64 0]) ?_ 2 _ rfl; (with_reducible repeat (first | refine blk_drewN ?_ _ | refine blk_drew ?_ | refine blk_alloc ?_ _)); refine blk_put (cs := #[.string t160, .int .i64 0, .int .i64 0, .int .i64 0, .int .i64 0]) ?_ 1 _ rfl; (with_reducible repeat (first | refine blk_drewN ?_ _ | refine blk_drew ?_ | refine blk_alloc ?_ _)); refine blk_put (cs := #[.string (⟨#[]⟩ : ByteArray), .int .i64 0, .int .i64 0, .int .i64 0, .int .i64 0]) ?_ 0 _ rfl; (with_reducible repeat (first | refine blk_drewN ?_ _ | refine blk_drew ?_ | refine blk_alloc ?_ _)); exact BK165.out) hb); have n2_ := Aside0.mk (below_step (by repeat (first | (with_reducible first | exact HB.out | apply below_alloc | apply pw_below_drewN | apply below_drew1 | refine below_set ?_ GE165.out) | exact HB.out)) hb); clear BK165; clear HB; have HO169 := n0_; have BK165 := n1_; have HB := n2_; clear n0_ n1_ n2_; (try clear hb); (try clear hb2); (try clear hk); (try clear hi); (try clear ho0); have hcz12_0 : w11.cell? ⟨gb165, 0, none⟩ = some (.string t160) := (blk_cell BK165.out 0).trans rfl; have hcz12_1 : w11.cell? ⟨gb165, 1, none⟩ = some (.int .i64 t161) := (blk_cell BK165.out 1).trans rfl; have hcz12_2 : w11.cell? ⟨gb165, 2, none⟩ = some (.int .i64 t162) := (blk_cell BK165.out 2).trans rfl; have hcz12_3 : w11.cell? ⟨gb165, 3, none⟩ = some (.int .i64 t163) := (blk_cell BK165.out 3).trans rfl; have hcz12_4 : w11.cell? ⟨gb165, 4, none⟩ = some (.int .i64 t163) := (blk_cell BK165.out 4).trans rfl; have hfz12_0 := blk_frozen BK165.out 0; have hfz12_1 := blk_frozen BK165.out 1; have hfz12_2 := blk_frozen BK165.out 2; have hfz12_3 := blk_frozen BK165.out 3; have hfz12_4 := blk_frozen BK165.out 4; obtain ⟨Ao13, co13, eo13⟩ := Kd.R_slice HO169.out; subst eo13) | (go_at_call 17; (with_reducible refine (dynamics_Speeds.calls k _ _ t167 0 t160 t161 t162 t163 t163 t170 t173 _ ?side1 ?side2 A6.out).mono ?_); (case side1 => repeat (first | exact (Kd.R_reads' HO169.out).2.2 | (with_reducible refine Kd.C_alloc ?_ _) | (with_reducible refine Kd.C_drewN ?_ _) | (with_reducible refine Kd.C_drew ?_))); (case side2 => exact (Kd.R_reads' HO169.out).2.1); rintro e w14 ⟨v171, rfl, ho0, hb⟩; have n0_ := Aside0.mk (Kd.R_below (by (with_reducible repeat (first | apply Kd.R_alloc | apply Kd.R_drewN | apply Kd.R_drew)); exact HO169.out) hb); have n1_ := Aside0.mk (Kd.R_lower ho0 (below_size (by repeat (first | (with_reducible first | exact HB.out | apply below_alloc | apply pw_below_drewN | apply below_drew1 | refine below_set ?_ GE165.out) | exact HB.out)))); have n2_ := Aside0.mk (blk_below (g := gb165) (o := .cells #[.string t160, .int .i64 t161, .int .i64 t162, .int .i64 t163, .int .i64 t163] 26 (0, 0)) (by (with_reducible repeat (first | refine blk_drewN ?_ _ | refine blk_drew ?_ | refine blk_alloc ?_ _)); exact BK165.out) hb); have n3_ := Aside0.mk (below_step (by repeat (first | (with_reducible first | exact HB.out | apply below_alloc | apply pw_below_drewN | apply below_drew1 | refine below_set ?_ GE165.out) | exact HB.out)) hb); clear HO169; clear BK165; clear HB; have HO169 := n0_; have HO172 := n1_; have BK165 := n2_; have HB := n3_; clear n0_ n1_ n2_ n3_; (try clear hb); (try clear hb2); (try clear hk); (try clear hi); (try clear ho0)))
  repeat (go_quiet (first | (go_at_call 14; (with_reducible refine (railplankeep_Stock.calls _ _ l1 t160 t161 t162 t163 t164 _ ?side1 ?side2 A3.out).mono ?_); (case side1 => repeat (first | exact HR1.out | (with_reducible refine Kd.C_alloc ?_ _) | (with_reducible refine Kd.C_drewN ?_ _) | (with_reducible refine Kd.C_drew ?_))); (case side2 => exact HC1.out); rintro e w8 ⟨rfl, hb⟩; have n0_ := Aside0.mk (below_step (by repeat (first | (with_reducible first | exact HB.out | apply below_alloc | apply pw_below_drewN | apply below_drew1) | exact HB.out)) hb); clear HB; have HB := n0_; clear n0_; (try clear hb); (try clear hb2); (try clear hk); (try clear hi)) | ((with_reducible refine gate_dst (N := 5) rfl ?_); (try (refine gate_guard (by rfl) ?_; dsimp only)); refine box_event ?hg (N := 5) ?hd (cs := #[.string (⟨#[]⟩ : ByteArray), .int .i64 0, .int .i64 0, .int .i64 0, .int .i64 0]) (t := 26) ?hr ?_; (case hd => rfl); (case hg => rfl); (case hr => first | (go_simp; done) | (go_simp; rfl)); intro gb165 hg w9 hbox hb; have n0_ := Aside0.mk (below_step (by repeat (first | (with_reducible first | exact HB.out | apply below_alloc | apply pw_below_drewN | apply below_drew1) | exact HB.out)) hb); have n1_ := Aside0.mk (hbox); have n2_ := Aside0.mk ((by rw [hg]; exact (below_size (by repeat (first | (with_reducible first | exact HB.out | apply below_alloc | apply pw_below_drewN | apply below_drew1) | exact HB.out))) : w.heap.size ≤ gb165)); have n3_ := Aside0.mk ((by rw [hg]; exact (below_size (by repeat (first | (with_reducible first | exact HB.out | apply below_alloc | apply pw_below_drewN | apply below_drew1) | exact HB.out))) : w.heap.size ≤ gb165)); clear HB; have HB := n0_; have BK165 := n1_; have GW165 := n2_; have GE165 := n3_; clear n0_ n1_ n2_ n3_; clear hb hbox hg; have hcz10_0 : w9.cell? ⟨gb165, 0, none⟩ = some (.string (⟨#[]⟩ : ByteArray)) := (blk_cell BK165.out 0).trans rfl; have hcz10_1 : w9.cell? ⟨gb165, 1, none⟩ = some (.int .i64 0) := (blk_cell BK165.out 1).trans rfl; have hcz10_2 : w9.cell? ⟨gb165, 2, none⟩ = some (.int .i64 0) := (blk_cell BK165.out 2).trans rfl; have hcz10_3 : w9.cell? ⟨gb165, 3, none⟩ = some (.int .i64 0) := (blk_cell BK165.out 3).trans rfl; have hcz10_4 : w9.cell? ⟨gb165, 4, none⟩ = some (.int .i64 0) := (blk_cell BK165.out 4).trans rfl; have hfz10_0 := blk_frozen BK165.out 0; have hfz10_1 := blk_frozen BK165.out 1; have hfz10_2 := blk_frozen BK165.out 2; have hfz10_3 := blk_frozen BK165.out 3; have hfz10_4 := blk_frozen BK165.out 4) | (go_at_call 16; (with_reducible refine (railplankeep_Pick.calls a0 60 t166 _ A4.out).mono ?_); rintro e w' ⟨rfl, ⟨nd, rfl⟩⟩; (try first | exact ⟨rfl, _, World.drewN_drewN _ _ _⟩ | exact ⟨rfl, _, Eq.trans (World.drewN_drewN _ _ _) (congrArg (World.drewN _) (Nat.add_assoc _ _ _))⟩)) | (go_at_call 18; (with_reducible refine (railplanlaw6_plain.calls k (wrap64 (2 + t166)) t167 _ A5.out).mono ?_); rintro e w11 ⟨v168, rfl, ho0, hb⟩; have n0_ := Aside0.mk (Kd.R_lower ho0 (below_size (by repeat (first | (with_reducible first | exact HB.out | apply below_alloc | apply pw_below_drewN | apply below_drew1 | refine below_set ?_ GE165.out) | exact HB.out)))); have n1_ := Aside0.mk (blk_below (g := gb165) (o := .cells #[.string t160, .int .i64 t161, .int .i64 t162, .int .i64 t163, .int .i64 t163] 26 (0, 0)) (by (with_reducible repeat (first | refine blk_drewN ?_ _ | refine blk_drew ?_ | refine blk_alloc ?_ _)); refine blk_put (cs := #[.string t160, .int .i64 t161, .int .i64 t162, .int .i64 t163, .int .i64 t164]) ?_ 4 _ rfl; (with_reducible repeat (first | refine blk_drewN ?_ _ | refine blk_drew ?_ | refine blk_alloc ?_ _)); refine blk_put (cs := #[.string t160, .int .i64 t161, .int .i64 t162, .int .i64 t163, .int .i64 0]) ?_ 4 _ rfl; (with_reducible repeat (first | refine blk_drewN ?_ _ | refine blk_drew ?_ | refine blk_alloc ?_ _)); refine blk_put (cs := #[.string t160, .int .i64 t161, .int .i64 t162, .int .i64 0, .int .i64 0]) ?_ 3 _ rfl; (with_reducible repeat (first | refine blk_drewN ?_ _ | refine blk_drew ?_ | refine blk_alloc ?_ _)); refine blk_put (cs := #[.string t160, .int .i64 t161, .int .i64 0, .int .i64 0, .int .i64 0]) ?_ 2 _ rfl; (with_reducible repeat (first | refine blk_drewN ?_ _ | refine blk_drew ?_ | refine blk_alloc ?_ _)); refine blk_put (cs := #[.string t160, .int .i64 0, .int .i64 0, .int .i64 0, .int .i64 0]) ?_ 1 _ rfl; (with_reducible repeat (first | refine blk_drewN ?_ _ | refine blk_drew ?_ | refine blk_alloc ?_ _)); refine blk_put (cs := #[.string (⟨#[]⟩ : ByteArray), .int .i64 0, .int .i64 0, .int .i64 0, .int .i64 0]) ?_ 0 _ rfl; (with_reducible repeat (first | refine blk_drewN ?_ _ | refine blk_drew ?_ | refine blk_alloc ?_ _)); exact BK165.out) hb); have n2_ := Aside0.mk (below_step (by repeat (first | (with_reducible first | exact HB.out | apply below_alloc | apply pw_below_drewN | apply below_drew1 | refine below_set ?_ GE165.out) | exact HB.out)) hb); clear BK165; clear HB; have HO169 := n0_; have BK165 := n1_; have HB := n2_; clear n0_ n1_ n2_; (try clear hb); (try clear hb2); (try clear hk); (try clear hi); (try clear ho0); have hcz12_0 : w11.cell? ⟨gb165, 0, none⟩ = some (.string t160) := (blk_cell BK165.out 0).trans rfl; have hcz12_1 : w11.cell? ⟨gb165, 1, none⟩ = some (.int .i64 t161) := (blk_cell BK165.out 1).trans rfl; have hcz12_2 : w11.cell? ⟨gb165, 2, none⟩ = some (.int .i64 t162) := (blk_cell BK165.out 2).trans rfl; have hcz12_3 : w11.cell? ⟨gb165, 3, none⟩ = some (.int .i64 t163) := (blk_cell BK165.out 3).trans rfl; have hcz12_4 : w11.cell? ⟨gb165, 4, none⟩ = some (.int .i64 t163) := (blk_cell BK165.out 4).trans rfl; have hfz12_0 := blk_frozen BK165.out 0; have hfz12_1 := blk_frozen BK165.out 1; have hfz12_2 := blk_frozen BK165.out 2; have hfz12_3 := blk_frozen BK165.out 3; have hfz12_4 := blk_frozen BK165.out 4; obtain ⟨Ao13, co13, eo13⟩ := Kd.R_slice HO169.out; subst eo13) | (go_at_call 17; (with_reducible refine (dynamics_Speeds.calls k _ _ t167 0 t160 t161 t162 t163 t163 t170 t173 _ ?side1 ?side2 A6.out).mono ?_); (case side1 => repeat (first | exact (Kd.R_reads' HO169.out).2.2 | (with_reducible refine Kd.C_alloc ?_ _) | (with_reducible refine Kd.C_drewN ?_ _) | (with_reducible refine Kd.C_drew ?_))); (case side2 => exact (Kd.R_reads' HO169.out).2.1); rintro e w14 ⟨v171, rfl, ho0, hb⟩; have n0_ := Aside0.mk (Kd.R_below (by (with_reducible repeat (first | apply Kd.R_alloc | apply Kd.R_drewN | apply Kd.R_drew)); exact HO169.out) hb); have n1_ := Aside0.mk (Kd.R_lower ho0 (below_size (by repeat (first | (with_reducible first | exact HB.out | apply below_alloc | apply pw_below_drewN | apply below_drew1 | refine below_set ?_ GE165.out) | exact HB.out)))); have n2_ := Aside0.mk (blk_below (g := gb165) (o := .cells #[.string t160, .int .i64 t161, .int .i64 t162, .int .i64 t163, .int .i64 t163] 26 (0, 0)) (by (with_reducible repeat (first | refine blk_drewN ?_ _ | refine blk_drew ?_ | refine blk_alloc ?_ _)); exact BK165.out) hb); have n3_ := Aside0.mk (below_step (by repeat (first | (with_reducible first | exact HB.out | apply below_alloc | apply pw_below_drewN | apply below_drew1 | refine below_set ?_ GE165.out) | exact HB.out)) hb); clear HO169; clear BK165; clear HB; have HO169 := n0_; have HO172 := n1_; have BK165 := n2_; have HB := n3_; clear n0_ n1_ n2_ n3_; (try clear hb); (try clear hb2); (try clear hk); (try clear hi); (try clear ho0))); go_upto_region 5 with (first | (go_at_call 14; (with_reducible refine (railplankeep_Stock.calls _ _ l1 t160 t161 t162 t163 t164 _ ?side1 ?side2 A3.out).mono ?_); (case side1 => repeat (first | exact HR1.out | (with_reducible refine Kd.C_alloc ?_ _) | (with_reducible refine Kd.C_drewN ?_ _) | (with_reducible refine Kd.C_drew ?_))); (case side2 => exact HC1.out); rintro e w8 ⟨rfl, hb⟩; have n0_ := Aside0.mk (below_step (by repeat (first | (with_reducible first | exact HB.out | apply below_alloc | apply pw_below_drewN | apply below_drew1) | exact HB.out)) hb); clear HB; have HB := n0_; clear n0_; (try clear hb); (try clear hb2); (try clear hk); (try clear hi)) | ((with_reducible refine gate_dst (N := 5) rfl ?_); (try (refine gate_guard (by rfl) ?_; dsimp only)); refine box_event ?hg (N := 5) ?hd (cs := #[.string (⟨#[]⟩ : ByteArray), .int .i64 0, .int .i64 0, .int .i64 0, .int .i64 0]) (t := 26) ?hr ?_; (case hd => rfl); (case hg => rfl); (case hr => first | (go_simp; done) | (go_simp; rfl)); intro gb165 hg w9 hbox hb; have n0_ := Aside0.mk (below_step (by repeat (first | (with_reducible first | exact HB.out | apply below_alloc | apply pw_below_drewN | apply below_drew1) | exact HB.out)) hb); have n1_ := Aside0.mk (hbox); have n2_ := Aside0.mk ((by rw [hg]; exact (below_size (by repeat (first | (with_reducible first | exact HB.out | apply below_alloc | apply pw_below_drewN | apply below_drew1) | exact HB.out))) : w.heap.size ≤ gb165)); have n3_ := Aside0.mk ((by rw [hg]; exact (below_size (by repeat (first | (with_reducible first | exact HB.out | apply below_alloc | apply pw_below_drewN | apply below_drew1) | exact HB.out))) : w.heap.size ≤ gb165)); clear HB; have HB := n0_; have BK165 := n1_; have GW165 := n2_; have GE165 := n3_; clear n0_ n1_ n2_ n3_; clear hb hbox hg; have hcz10_0 : w9.cell? ⟨gb165, 0, none⟩ = some (.string (⟨#[]⟩ : ByteArray)) := (blk_cell BK165.out 0).trans rfl; have hcz10_1 : w9.cell? ⟨gb165, 1, none⟩ = some (.int .i64 0) := (blk_cell BK165.out 1).trans rfl; have hcz10_2 : w9.cell? ⟨gb165, 2, none⟩ = some (.int .i64 0) := (blk_cell BK165.out 2).trans rfl; have hcz10_3 : w9.cell? ⟨gb165, 3, none⟩ = some (.int .i64 0) := (blk_cell BK165.out 3).trans rfl; have hcz10_4 : w9.cell? ⟨gb165, 4, none⟩ = some (.int .i64 0) := (blk_cell BK165.out 4).trans rfl; have hfz10_0 := blk_frozen BK165.out 0; have hfz10_1 := blk_frozen BK165.out 1; have hfz10_2 := blk_frozen BK165.out 2; have hfz10_3 := blk_frozen BK165.out 3; have hfz10_4 := blk_frozen BK165.out 4) | (go_at_call 16; (with_reducible refine (railplankeep_Pick.calls a0 60 t166 _ A4.out).mono ?_); rintro e w' ⟨rfl, ⟨nd, rfl⟩⟩; (try first | exact ⟨rfl, _, World.drewN_drewN _ _ _⟩ | exact ⟨rfl, _, Eq.trans (World.drewN_drewN _ _ _) (congrArg (World.drewN _) (Nat.add_assoc _ _ _))⟩)) | (go_at_call 18; (with_reducible refine (railplanlaw6_plain.calls k (wrap64 (2 + t166)) t167 _ A5.out).mono ?_); rintro e w11 ⟨v168, rfl, ho0, hb⟩; have n0_ := Aside0.mk (Kd.R_lower ho0 (below_size (by repeat (first | (with_reducible first | exact HB.out | apply below_alloc | apply pw_below_drewN | apply below_drew1 | refine below_set ?_ GE165.out) | exact HB.out)))); have n1_ := Aside0.mk (blk_below (g := gb165) (o := .cells #[.string t160, .int .i64 t161, .int .i64 t162, .int .i64 t163, .int .i64 t163] 26 (0, 0)) (by (with_reducible repeat (first | refine blk_drewN ?_ _ | refine blk_drew ?_ | refine blk_alloc ?_ _)); refine blk_put (cs := #[.string t160, .int .i64 t161, .int .i64 t162, .int .i64 t163, .int .i64 t164]) ?_ 4 _ rfl; (with_reducible repeat (first | refine blk_drewN ?_ _ | refine blk_drew ?_ | refine blk_alloc ?_ _)); refine blk_put (cs := #[.string t160, .int .i64 t161, .int .i64 t162, .int .i64 t163, .int .i64 0]) ?_ 4 _ rfl; (with_reducible repeat (first | refine blk_drewN ?_ _ | refine blk_drew ?_ | refine blk_alloc ?_ _)); refine blk_put (cs := #[.string t160, .int .i64 t161, .int .i64 t162, .int .i64 0, .int .i64 0]) ?_ 3 _ rfl; (with_reducible repeat (first | refine blk_drewN ?_ _ | refine blk_drew ?_ | refine blk_alloc ?_ _)); refine blk_put (cs := #[.string t160, .int .i64 t161, .int .i64 0, .int .i64 0, .int .i64 0]) ?_ 2 _ rfl; (with_reducible repeat (first | refine blk_drewN ?_ _ | refine blk_drew ?_ | refine blk_alloc ?_ _)); refine blk_put (cs := #[.string t160, .int .i64 0, .int .i64 0, .int .i64 0, .int .i64 0]) ?_ 1 _ rfl; (with_reducible repeat (first | refine blk_drewN ?_ _ | refine blk_drew ?_ | refine blk_alloc ?_ _)); refine blk_put (cs := #[.string (⟨#[]⟩ : ByteArray), .int .i64 0, .int .i64 0, .int .i64 0, .int .i64 0]) ?_ 0 _ rfl; (with_reducible repeat (first | refine blk_drewN ?_ _ | refine blk_drew ?_ | refine blk_alloc ?_ _)); exact BK165.out) hb); have n2_ := Aside0.mk (below_step (by repeat (first | (with_reducible first | exact HB.out | apply below_alloc | apply pw_below_drewN | apply below_drew1 | refine below_set ?_ GE165.out) | exact HB.out)) hb); clear BK165; clear HB; have HO169 := n0_; have BK165 := n1_; have HB := n2_; clear n0_ n1_ n2_; (try clear hb); (try clear hb2); (try clear hk); (try clear hi); (try clear ho0); have hcz12_0 : w11.cell? ⟨gb165, 0, none⟩ = some (.string t160) := (blk_cell BK165.out 0).trans rfl; have hcz12_1 : w11.cell? ⟨gb165, 1, none⟩ = some (.int .i64 t161) := (blk_cell BK165.out 1).trans rfl; have hcz12_2 : w11.cell? ⟨gb165, 2, none⟩ = some (.int .i64 t162) := (blk_cell BK165.out 2).trans rfl; have hcz12_3 : w11.cell? ⟨gb165, 3, none⟩ = some (.int .i64 t163) := (blk_cell BK165.out 3).trans rfl; have hcz12_4 : w11.cell? ⟨gb165, 4, none⟩ = some (.int .i64 t163) := (blk_cell BK165.out 4).trans rfl; have hfz12_0 := blk_frozen BK165.out 0; have hfz12_1 := blk_frozen BK165.out 1; have hfz12_2 := blk_frozen BK165.out 2; have hfz12_3 := blk_frozen BK165.out 3; have hfz12_4 := blk_frozen BK165.out 4; obtain ⟨Ao13, co13, eo13⟩ := Kd.R_slice HO169.out; subst eo13) | (go_at_call 17; (with_reducible refine (dynamics_Speeds.calls k _ _ t167 0 t160 t161 t162 t163 t163 t170 t173 _ ?side1 ?side2 A6.out).mono ?_); (case side1 => repeat (first | exact (Kd.R_reads' HO169.out).2.2 | (with_reducible refine Kd.C_alloc ?_ _) | (with_reducible refine Kd.C_drewN ?_ _) | (with_reducible refine Kd.C_drew ?_))); (case side2 => exact (Kd.R_reads' HO169.out).2.1); rintro e w14 ⟨v171, rfl, ho0, hb⟩; have n0_ := Aside0.mk (Kd.R_below (by (with_reducible repeat (first | apply Kd.R_alloc | apply Kd.R_drewN | apply Kd.R_drew)); exact HO169.out) hb); have n1_ := Aside0.mk (Kd.R_lower ho0 (below_size (by repeat (first | (with_reducible first | exact HB.out | apply below_alloc | apply pw_below_drewN | apply below_drew1 | refine below_set ?_ GE165.out) | exact HB.out)))); have n2_ := Aside0.mk (blk_below (g := gb165) (o := .cells #[.string t160, .int .i64 t161, .int .i64 t162, .int .i64 t163, .int .i64 t163] 26 (0, 0)) (by (with_reducible repeat (first | refine blk_drewN ?_ _ | refine blk_drew ?_ | refine blk_alloc ?_ _)); exact BK165.out) hb); have n3_ := Aside0.mk (below_step (by repeat (first | (with_reducible first | exact HB.out | apply below_alloc | apply pw_below_drewN | apply below_drew1 | refine below_set ?_ GE165.out) | exact HB.out)) hb); clear HO169; clear BK165; clear HB; have HO169 := n0_; have HO172 := n1_; have BK165 := n2_; have HB := n3_; clear n0_ n1_ n2_ n3_; (try clear hb); (try clear hb2); (try clear hk); (try clear hi); (try clear ho0))))
  (try simp only [Act.put, List.setIfInBounds_toArray, List.set_cons_zero, List.set_cons_succ])
  go_cut [34] (fun v34 wc => ∃ (kq : Nat) (x34_6 : Bool), v34 = .bool x34_6 ∧ Aside0 (railplanlaw6_DynamicsLevelIsSymmetric.j0 kq t170 x34_6 = some r) ∧ Aside0 (kq ≤ k) ∧ Aside0 (Kd.R (Kd.int .i64) 3 wc w.heap.size (fun _ => True) v171 t170) ∧ Aside0 (wc.heap[gb165]? = some (.cells #[.string t160, .int .i64 t161, .int .i64 t162, .int .i64 t163, .int .i64 t163] 26 (0, 0))) ∧ Aside0 (Below w.heap.size w wc))
  case first =>
    have H := HC7.out
    clear HC7
    by_cases c15 : t173 = 0
    · rw [if_pos c15] at H
      have c15b0 : (t173 == 0) = true := beq_iff_eq.mpr c15
      have c15b1 : (t173 != 0) = false := bne_eq_false_iff_eq.mpr c15
      clear c15
      (first | rw [c15b0] | (simp only [i64_w, i32_w]; rw [c15b0]) | skip)
      have H' := Aside0.mk H
      clear H
      obtain ⟨Ao16, co16, eo16⟩ := Kd.R_slice HO172.out
      subst eo16
      go_wp2
      repeat (go_quiet (fail); try go_wp2)
      go_meet
      case rel => exact ⟨_, (((t170.length : Int) != (wrap64 ((t167.length : Int) + 1)))), (by first | rfl | (simp; done) | (simp [*]; done)), H', ⟨by first | omega | exact Nat.le_refl _⟩, ⟨by (with_reducible repeat (first | apply Kd.R_alloc | apply Kd.R_drewN | apply Kd.R_drew)); exact HO172.out⟩, ⟨by (with_reducible repeat (first | refine blk_drewN ?_ _ | refine blk_drew ?_ | refine blk_alloc ?_ _)); exact BK165.out⟩, ⟨by repeat (first | (with_reducible first | exact HB.out | apply below_alloc | apply pw_below_drewN | apply below_drew1 | refine below_set ?_ GE165.out) | exact HB.out)⟩⟩
    · rw [if_neg c15] at H
      have c15b0 : (t173 == 0) = false := beq_eq_false_iff_ne.mpr c15
      have c15b1 : (t173 != 0) = true := bne_iff_ne.mpr c15
      (first | rw [c15b0] | (simp only [i64_w, i32_w]; rw [c15b0]) | skip)
      have H' := Aside0.mk H
      clear H
      go_wp2
      repeat (go_quiet (fail); try go_wp2)
      go_meet
      case rel => exact ⟨_, (true), (by first | rfl | (simp; done) | (simp [*]; done)), H', ⟨by first | omega | exact Nat.le_refl _⟩, ⟨by (with_reducible repeat (first | apply Kd.R_alloc | apply Kd.R_drewN | apply Kd.R_drew)); exact HO172.out⟩, ⟨by (with_reducible repeat (first | refine blk_drewN ?_ _ | refine blk_drew ?_ | refine blk_alloc ?_ _)); exact BK165.out⟩, ⟨by repeat (first | (with_reducible first | exact HB.out | apply below_alloc | apply pw_below_drewN | apply below_drew1 | refine below_set ?_ GE165.out) | exact HB.out)⟩⟩
  case rest =>
    clear HC7
    try clear c1
    try clear p2
    try clear c4
    try clear p6
    try clear c15
    try clear c15b0
    try clear c15b1
    try clear hcz10_0
    try clear hcz10_1
    try clear hcz10_2
    try clear hcz10_3
    try clear hcz10_4
    try clear hcz12_0
    try clear hcz12_1
    try clear hcz12_2
    try clear hcz12_3
    try clear hcz12_4
    try clear hfz10_0
    try clear hfz10_1
    try clear hfz10_2
    try clear hfz10_3
    try clear hfz10_4
    try clear hfz12_0
    try clear hfz12_1
    try clear hfz12_2
    try clear hfz12_3
    try clear hfz12_4
    obtain ⟨kq, x34_6, rfl, HA, HJ6, HO_7, BK165, HB⟩ := hcut
    cases kq with
    | zero => exact absurd HA.out (by simp [railplanlaw6_DynamicsLevelIsSymmetric.j0])
    | succ kj6 =>
      have H := HA.out
      clear HA
      simp only [railplanlaw6_DynamicsLevelIsSymmetric.j0] at H
      by_cases c17 : x34_6 = true
      · subst c17
        have H1 : (some false) = some r := by rw [if_pos rfl] at H; exact H
        clear H
        have H := H1
        clear H1
        obtain rfl := Option.some.inj H
        go_wp2
        repeat (go_quiet (fail); try go_wp2)
        go_ret
        exact ⟨by first | rfl | (simp [errW_none, errW_some] <;> rfl) | (simp [*, errW_none, errW_some] <;> rfl), by repeat (first | (with_reducible first | exact HB.out | apply below_alloc | apply pw_below_drewN | apply below_drew1 | refine below_set ?_ GE165.out) | exact HB.out)⟩
      · replace c17 := Bool.eq_false_iff.mpr c17
        subst c17
        have H1 : (railplanlaw6_DynamicsLevelIsSymmetric.l0 kj6 t170 (t170.length : Int) 0) = some r := by rw [if_neg (show ¬ (false = true) by decide)] at H; exact H
        clear H
        have H := H1
        clear H1
        have H' := Aside0.mk H
        clear H
        obtain ⟨Ao18, co18, eo18⟩ := Kd.R_slice HO_7.out
        subst eo18
        go_wp2
        repeat (go_quiet (fail); try go_wp2)
        go_loopg [37] kj6 (fun kq v37 w' => ∃ (x37_2 : Int), v37 = .int .i64 x37_2 ∧ Aside0 (railplanlaw6_DynamicsLevelIsSymmetric.l0 kq t170 (t170.length : Int) x37_2 = some r) ∧ Aside0 (kq ≤ kj6) ∧ Aside0 (Kd.R (Kd.int .i64) 3 w' w.heap.size (fun _ => True) (.slice Ao18 t170.length co18) t170) ∧ Aside0 (w'.heap[gb165]? = some (.cells #[.string t160, .int .i64 t161, .int .i64 t162, .int .i64 t163, .int .i64 t163] 26 (0, 0))) ∧ Aside0 (Below w.heap.size w w'))
        case atStart => exact ⟨(0), (by first | rfl | (simp; done) | (simp [*]; done)), H', ⟨Nat.le_refl _⟩, ⟨by (with_reducible repeat (first | apply Kd.R_alloc | apply Kd.R_drewN | apply Kd.R_drew)); exact HO_7.out⟩, ⟨by (with_reducible repeat (first | refine blk_drewN ?_ _ | refine blk_drew ?_ | refine blk_alloc ?_ _)); exact BK165.out⟩, ⟨by repeat (first | (with_reducible first | exact HB.out | apply below_alloc | apply pw_below_drewN | apply below_drew1 | refine below_set ?_ GE165.out) | exact HB.out)⟩⟩
        case round =>
          clear H'
          try clear c1
          try clear p2
          try clear c4
          try clear p6
          try clear c15
          try clear c15b0
          try clear c15b1
          try clear c17
          try clear hcz10_0
          try clear hcz10_1
          try clear hcz10_2
          try clear hcz10_3
          try clear hcz10_4
          try clear hcz12_0
          try clear hcz12_1
          try clear hcz12_2
          try clear hcz12_3
          try clear hcz12_4
          try clear hfz10_0
          try clear hfz10_1
          try clear hfz10_2
          try clear hfz10_3
          try clear hfz10_4
          try clear hfz12_0
          try clear hfz12_1
          try clear hfz12_2
          try clear hfz12_3
          try clear hfz12_4
          try clear p2
          try clear p6
          obtain ⟨x37_2, rfl, HA, HK2, HO_7, BK165, HB⟩ := hrel
          cases gk with
          | zero => exact absurd HA.out (by simp [railplanlaw6_DynamicsLevelIsSymmetric.l0])
          | succ k2 =>
            have H := HA.out
            clear HA
            simp only [railplanlaw6_DynamicsLevelIsSymmetric.l0] at H
            by_cases c19 : x37_2 < (t170.length : Int)
            · rw [if_pos c19] at H
              have c19b0 : decide (x37_2 < (t170.length : Int)) = true := decide_eq_true c19
              clear c19
              by_cases c20 : 0 ≤ x37_2
              · rw [if_pos c20] at H
                have c20b0 : decide (0 ≤ x37_2) = true := decide_eq_true c20
                clear c20
                by_cases c21 : x37_2 < (t170.length : Int)
                · rw [if_pos c21] at H
                  have c21b0 : decide (x37_2 < (t170.length : Int)) = true := decide_eq_true c21
                  clear c21
                  obtain ⟨ji22, hji22⟩ : ∃ j_ : Int, (wrap64 ((wrap64 ((t170.length : Int) - 1)) - x37_2)) = j_ := ⟨_, rfl⟩
                  replace H : (if 0 ≤ (ji22) then (if (ji22) < (t170.length : Int) then (if (rd t170 x37_2) = (rd t170 (ji22)) then (railplanlaw6_DynamicsLevelIsSymmetric.l0 k2 t170 (t170.length : Int) (wrap64 (x37_2 + 1))) else (some false)) else (none)) else (none)) = some r := by first | (rw [hji22] at H; exact H) | (simp only [hji22] at H ⊢; exact H)
                  have hji22w : (IntKind.i64.wrap ((wrap64 ((t170.length : Int) - 1)) - x37_2)) = ji22 := (i64_w _).trans hji22
                  by_cases c23 : 0 ≤ (ji22)
                  · rw [if_pos c23] at H
                    have c23b0 : decide (0 ≤ (ji22)) = true := decide_eq_true c23
                    clear c23
                    by_cases c24 : (ji22) < (t170.length : Int)
                    · rw [if_pos c24] at H
                      have c24b0 : decide ((ji22) < (t170.length : Int)) = true := decide_eq_true c24
                      clear c24
                      by_cases c25 : (rd t170 x37_2) = (rd t170 (ji22))
                      · rw [if_pos c25] at H
                        have c25b0 : ((rd t170 x37_2) == (rd t170 (ji22))) = true := beq_iff_eq.mpr c25
                        have c25b1 : ((rd t170 x37_2) != (rd t170 (ji22))) = false := bne_eq_false_iff_eq.mpr c25
                        clear c25
                        have H' := Aside0.mk H
                        clear H
                        have p174 : 0 ≤ (x37_2 : Int) := of_decide_eq_true (by first | (with_reducible assumption) | assumption)
                        have q174 : x37_2 < (t170.length : Int) := of_decide_eq_true (by first | (with_reducible assumption) | assumption)
                        obtain ⟨ad174, e174, hx174_0⟩ := Kd.at_int (Kd.R_reads' HO_7.out).2.2 x37_2 p174 q174
                        cases e174
                        replace p174 := eq_true p174
                        replace q174 := eq_true q174
                        have p175 : 0 ≤ ((ji22) : Int) := of_decide_eq_true (by first | (with_reducible assumption) | assumption)
                        have q175 : (ji22) < (t170.length : Int) := of_decide_eq_true (by first | (with_reducible assumption) | assumption)
                        obtain ⟨ad175, e175, hx175_0⟩ := Kd.at_int (Kd.R_reads' HO_7.out).2.2 (ji22) p175 q175
                        obtain rfl : ad174 = ad175 := (by injection e175)
                        replace p175 := eq_true p175
                        replace q175 := eq_true q175
                        go_wp2
                        repeat (go_quiet (fail); try go_wp2)
                        go_roundg k2
                        case measure => have := HJ6.out; have := HK2.out; omega
                        case rel => exact ⟨(wrap64 (x37_2 + 1)), (by first | rfl | (simp; done) | (simp [*]; done)), H', ⟨by have := HJ6.out; have := HK2.out; omega⟩, ⟨by (with_reducible repeat (first | apply Kd.R_alloc | apply Kd.R_drewN | apply Kd.R_drew)); exact HO_7.out⟩, ⟨by (with_reducible repeat (first | refine blk_drewN ?_ _ | refine blk_drew ?_ | refine blk_alloc ?_ _)); exact BK165.out⟩, ⟨by repeat (first | (with_reducible first | exact HB.out | apply below_alloc | apply pw_below_drewN | apply below_drew1 | refine below_set ?_ GE165.out) | exact HB.out)⟩⟩
                      · rw [if_neg c25] at H
                        have c25b0 : ((rd t170 x37_2) == (rd t170 (ji22))) = false := beq_eq_false_iff_ne.mpr c25
                        have c25b1 : ((rd t170 x37_2) != (rd t170 (ji22))) = true := bne_iff_ne.mpr c25
                        obtain rfl := Option.some.inj H
                        have p174 : 0 ≤ (x37_2 : Int) := of_decide_eq_true (by first | (with_reducible assumption) | assumption)
                        have q174 : x37_2 < (t170.length : Int) := of_decide_eq_true (by first | (with_reducible assumption) | assumption)
                        obtain ⟨ad174, e174, hx174_0⟩ := Kd.at_int (Kd.R_reads' HO_7.out).2.2 x37_2 p174 q174
                        cases e174
                        replace p174 := eq_true p174
                        replace q174 := eq_true q174
                        have p175 : 0 ≤ ((ji22) : Int) := of_decide_eq_true (by first | (with_reducible assumption) | assumption)
                        have q175 : (ji22) < (t170.length : Int) := of_decide_eq_true (by first | (with_reducible assumption) | assumption)
                        obtain ⟨ad175, e175, hx175_0⟩ := Kd.at_int (Kd.R_reads' HO_7.out).2.2 (ji22) p175 q175
                        obtain rfl : ad174 = ad175 := (by injection e175)
                        replace p175 := eq_true p175
                        replace q175 := eq_true q175
                        go_wp2
                        repeat (go_quiet (fail); try go_wp2)
                        go_ret
                        exact ⟨by first | rfl | (simp [errW_none, errW_some] <;> rfl) | (simp only [← hji22]; first | rfl | (simp [errW_none, errW_some] <;> rfl)) | (simp [*, errW_none, errW_some] <;> rfl), by repeat (first | (with_reducible first | exact HB.out | apply below_alloc | apply pw_below_drewN | apply below_drew1 | refine below_set ?_ GE165.out) | exact HB.out)⟩
                    · rw [if_neg c24] at H
                      exact absurd H (by simp)
                  · rw [if_neg c23] at H
                    exact absurd H (by simp)
                · rw [if_neg c21] at H
                  exact absurd H (by simp)
              · rw [if_neg c20] at H
                exact absurd H (by simp)
            · rw [if_neg c19] at H
              have c19b0 : decide (x37_2 < (t170.length : Int)) = false := decide_eq_false c19
              clear c19
              by_cases c26 : 1 < (t170.length : Int)
              · rw [if_pos c26] at H
                have c26b0 : decide (1 < (t170.length : Int)) = true := decide_eq_true c26
                have c26b1 : decide (1 < t170.length) = true := decide_eq_true (by omega)
                clear c26
                obtain rfl := Option.some.inj H
                have p176 : 0 ≤ (1 : Int) := (by omega)
                have q176 : 1 < (t170.length : Int) := of_decide_eq_true (by first | (with_reducible assumption) | assumption)
                obtain ⟨ad176, e176, hx176_0⟩ := Kd.at_int (Kd.R_reads' HO_7.out).2.2 1 p176 q176
                cases e176
                (try simp only [show (1 : Int).toNat = 1 from rfl, Nat.reduceMul, Nat.reduceEqDiff, Go.Addr.add, ↓reduceIte] at hx176_0)
                have qi176 : (1 < t170.length) = True := eq_true (by omega)
                (try rw [show ((1 : Int)).toNat = 1 from rfl] at hx176_0)
                replace p176 := eq_true p176
                replace q176 := eq_true q176
                go_wp2
                repeat (go_quiet (fail); try go_wp2)
                go_ret
                exact ⟨by first | rfl | (simp [errW_none, errW_some] <;> rfl) | (simp [*, errW_none, errW_some] <;> rfl), by repeat (first | (with_reducible first | exact HB.out | apply below_alloc | apply pw_below_drewN | apply below_drew1 | refine below_set ?_ GE165.out) | exact HB.out)⟩
              · rw [if_neg c26] at H
                exact absurd H (by simp)

/-- THE ONE PURE STATEMENT of railplanlaw6_DynamicsLevelIsSymmetric: yours. -/
def railplanlaw6_DynamicsLevelIsSymmetric.Pure : Prop := ∀ (a0 : Int) (l1 : List Int), (Lit.int .i64 a0).wf = true → l1.length ≤ maxLen → l1.length * 8 ≤ 140737488351232 → (∀ x ∈ l1, (Lit.int .i64 x).wf = true) → ∃ k, railplanlaw6_DynamicsLevelIsSymmetric.f k a0 l1 = some true
theorem railplanlaw6_DynamicsLevelIsSymmetric.walk (P : railplanlaw6_DynamicsLevelIsSymmetric.Pure) (a0 : Int) (a1 : Option Addr) (len1 cap1 : Nat) (z1 : List Int) (w : World) (w0 : (Lit.int .i64 a0).wf = true) (w1 : (a1 = none ∧ len1 = 0 ∧ cap1 = 0 ∧ z1 = []) ∨ ∃ x, a1 = some x ∧ len1 ≤ cap1 ∧ cap1 ≤ maxLen ∧ z1.length = cap1 ∧ (∀ i, i < z1.length → w.cell? (x.add i) = some (.int .i64 (z1.getD i 0))) ∧ ∀ n ∈ z1, (Lit.int .i64 n).wf = true) (y1 : len1 * 8 ≤ 140737488351232) :
    Calls Try.prog 4 #[.int .i64 a0, .slice a1 len1 cap1] w fun e w' => e = .returned (.bool true) ∧ Below w.heap.size w w' := by
  obtain ⟨l1, rfl, hr1, hm1, hw1, hc1⟩ := ReadsInt.ofRowC w1
  obtain ⟨k, h⟩ := P a0 l1 w0 hm1 y1 hw1
  refine (railplanlaw6_DynamicsLevelIsSymmetric.calls k a0 _ _ l1 true w (Kd.C_of_reads (d := (0 : Int)) (h1 := fun _ => rfl) hr1) hc1 h).mono ?_
  rintro e w' ⟨rfl, hd⟩
  exact ⟨rfl, hd⟩

end Go.Proofs.Ytfnpoalffpnllaa.XDynamicsLevelIsSymmetric
