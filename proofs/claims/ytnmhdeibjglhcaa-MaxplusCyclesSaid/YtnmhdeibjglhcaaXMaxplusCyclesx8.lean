-- This session's own text, written by wip/tools/xprint.py after the form of the kit's print.
import Derived.Test.YtnmhdeibjglhcaaXMaxplusCyclesx0
import Derived.Test.YtnmhdeibjglhcaaXMaxplusCyclesx1
import Derived.Test.YtnmhdeibjglhcaaXMaxplusCyclesx4
import Derived.Test.YtnmhdeibjglhcaaXMaxplusCyclesx5
import Derived.Test.YtnmhdeibjglhcaaXMaxplusCyclesx6
import Derived.Test.YtnmhdeibjglhcaaXMaxplusCyclesx7
namespace Go.Proofs.Ytnmhdeibjglhcaa.XMaxplusCycles
open Go.RowKit Go.Proofs.YtnmhdeibjglhcaaW.PrintWords Go.Proofs.YtnmhdeibjglhcaaW.PrintLast Go.Proofs.YtnmhdeibjglhcaaW.PrintMore
attribute [local go_sem] max2_int min2_int max_two min_two max_three min_three max_four min_four   -- for this text's walks alone
set_option linter.unusedVariables false
set_option linter.unusedSimpArgs false

/-! ### railplanlaw33_example: function 37 -/
def railplanlaw33_example.f  : Option ((List (List Int))) := some (([(([(-1125899906842624), 3] : List Int)), (([2, (-1125899906842624)] : List Int))] : List (List Int)))
set_option maxHeartbeats 8000000 in
set_option maxRecDepth 100000 in
theorem railplanlaw33_example.calls  (r : List (List Int)) (w : World) (h : railplanlaw33_example.f  = some r) :
    Calls Try.prog 37 #[] w fun e w' => ∃ v0_ : Value, e = .returned (v0_) ∧ Kd.N (Kd.slice 3 (Kd.int .i64)) 22 w' w.heap.size (fun k_ => (w.heap.size ≤ k_)) v0_ r ∧ Below w.heap.size w w' := by
  have HB := Aside0.mk (Below.refl w.heap.size w)
  have H : (some (([(([(-1125899906842624), 3] : List Int)), (([2, (-1125899906842624)] : List Int))] : List (List Int)))) = some r := h
  clear h
  obtain ⟨y208, hy208⟩ : ∃ y_ : List Int, y_ = (([(-1125899906842624), 3] : List Int)) := ⟨_, rfl⟩
  replace H : (some (([y208, (([2, (-1125899906842624)] : List Int))] : List (List Int)))) = some r := by first | (rw [hy208]; with_reducible exact H) | (have H2_ := (Option.bind_some _ _).symm.trans H; rw [hy208]; with_reducible exact H2_) | (have H2_ := (Option.bind_some _ _).symm.trans H; with_reducible exact H2_) | with_reducible exact H | (rw [hy208]; exact H) | exact H
  have Ny208 := Aside0.mk hy208
  clear hy208
  obtain ⟨y211, hy211⟩ : ∃ y_ : List Int, y_ = (([2, (-1125899906842624)] : List Int)) := ⟨_, rfl⟩
  replace H : (some (([y208, y211] : List (List Int)))) = some r := by first | (rw [hy211]; with_reducible exact H) | (have H2_ := (Option.bind_some _ _).symm.trans H; rw [hy211]; with_reducible exact H2_) | (have H2_ := (Option.bind_some _ _).symm.trans H; with_reducible exact H2_) | with_reducible exact H | (rw [hy211]; exact H) | exact H
  have Ny211 := Aside0.mk hy211
  clear hy211
  obtain ⟨y214, hy214⟩ : ∃ y_ : List (List Int), y_ = (([y208, y211] : List (List Int))) := ⟨_, rfl⟩
  replace H : (some y214) = some r := by first | (rw [hy214]; with_reducible exact H) | (have H2_ := (Option.bind_some _ _).symm.trans H; rw [hy214]; with_reducible exact H2_) | (have H2_ := (Option.bind_some _ _).symm.trans H; with_reducible exact H2_) | with_reducible exact H | (rw [hy214]; exact H) | exact H
  have Ny214 := Aside0.mk hy214
  clear hy214
  obtain rfl := Option.some.inj H
  go_enter Try.func37, Try.ntmps37
  go_wp2_with (first | ((with_reducible refine gate_dst (N := 1) rfl ?_); refine Kd.R_lit (Kd.int .i64) _ 3 ?hg (N := 1) ?hd (xs := ([(-1125899906842624), 3] : List Int)) (inner := [.int .i64 (-1125899906842624), .int .i64 3]) (ok := fun _ => True) (okp := fun _ => True) ?hr ?hp (fun _ hk => hk) trivial (Below.refl _ _) (Nat.le_refl _) (by simp) ?_; (case hd => rfl); (case hg => rfl); (case hr => first | (go_simp; done) | (go_simp; rfl)); (case hp => exact (Reps.one (show Kd.M (Kd.int .i64) _ _ _ (-1125899906842624) [.int .i64 (-1125899906842624)] from rfl) (Reps.one (show Kd.M (Kd.int .i64) _ _ _ 3 [.int .i64 3] from rfl) (Reps.none _ _)))); intro v209 w1 ho2 hb hg_ hnew_; clear hg_ hnew_; (first | rw [← Ny208.out] at ho2 | (simp only [Int.reduceToNat] at ho2; rw [← Ny208.out] at ho2)); have n0_ := Aside0.mk (Kd.R_lower (Kd.R_newM (M := fun k_ => (w.heap.size ≤ k_)) ho2 (below_size (by repeat (first | (with_reducible first | exact HB.out | apply below_alloc | apply pw_below_drewN | apply below_drew1) | exact HB.out))) (fun k_ h_ => h_)) (below_size (by repeat (first | (with_reducible first | exact HB.out | apply below_alloc | apply pw_below_drewN | apply below_drew1) | exact HB.out)))); have n1_ := Aside0.mk (below_step (by repeat (first | (with_reducible first | exact HB.out | apply below_alloc | apply pw_below_drewN | apply below_drew1) | exact HB.out)) hb); clear HB; have HO210 := n0_; have HB := n1_; clear n0_ n1_; clear hb ho2) | ((with_reducible refine gate_dst (N := 2) rfl ?_); refine Kd.R_lit (Kd.int .i64) _ 3 ?hg (N := 2) ?hd (xs := ([2, (-1125899906842624)] : List Int)) (inner := [.int .i64 2, .int .i64 (-1125899906842624)]) (ok := fun _ => True) (okp := fun _ => True) ?hr ?hp (fun _ hk => hk) trivial (Below.refl _ _) (Nat.le_refl _) (by simp) ?_; (case hd => rfl); (case hg => rfl); (case hr => first | (go_simp; done) | (go_simp; rfl)); (case hp => exact (Reps.one (show Kd.M (Kd.int .i64) _ _ _ 2 [.int .i64 2] from rfl) (Reps.one (show Kd.M (Kd.int .i64) _ _ _ (-1125899906842624) [.int .i64 (-1125899906842624)] from rfl) (Reps.none _ _)))); intro v212 w3 ho4 hb hg_ hnew_; clear hg_ hnew_; (first | rw [← Ny211.out] at ho4 | (simp only [Int.reduceToNat] at ho4; rw [← Ny211.out] at ho4)); have n0_ := Aside0.mk (Kd.R_elder' (by (with_reducible repeat (first | apply Kd.R_alloc | apply Kd.R_drewN | apply Kd.R_drew)); exact HO210.out) (by first | exact Kd.N_base ho4 | exact Kd.S_base ho4 | exact Kd.R_base ho4 | exact Kd.Q_base ho4) hb); have n1_ := Aside0.mk (Kd.R_lower (Kd.R_new' (Kd.R_newM (M := fun k_ => (w.heap.size ≤ k_)) ho4 (below_size (by repeat (first | (with_reducible first | exact HB.out | apply below_alloc | apply pw_below_drewN | apply below_drew1) | exact HB.out))) (fun k_ h_ => h_)) (Kd.R_lt (by (with_reducible repeat (first | apply Kd.R_alloc | apply Kd.R_drewN | apply Kd.R_drew)); exact HO210.out))) (below_size (by repeat (first | (with_reducible first | exact HB.out | apply below_alloc | apply pw_below_drewN | apply below_drew1) | exact HB.out)))); have n2_ := Aside0.mk (below_step (by repeat (first | (with_reducible first | exact HB.out | apply below_alloc | apply pw_below_drewN | apply below_drew1) | exact HB.out)) hb); clear HO210; clear HB; have HO210 := n0_; have HO213 := n1_; have HB := n2_; clear n0_ n1_ n2_; clear hb ho4; obtain ⟨Ao5, co5, eo5⟩ := Kd.R_slice HO210.out; subst eo5; obtain ⟨Ao6, co6, eo6⟩ := Kd.R_slice HO213.out; subst eo6) | ((with_reducible refine gate_dst (N := 3) rfl ?_); refine Kd.N_lit (Kd.slice 3 (Kd.int .i64)) _ 22 ?hg (N' := 3) ?hd (xs := ([y208, y211] : List (List Int))) (inner := [.slice Ao5 y208.length co5, .slice Ao6 y211.length co6]) (ok := (fun k_ => (w.heap.size ≤ k_))) (okp := (fun k_ => (w.heap.size ≤ k_))) ?hr ?hp (fun _ hk => hk) ((show ∀ k_, w3.heap.size ≤ k_ → (fun k_ => (w.heap.size ≤ k_)) k_ from fun k_ hk => (Nat.le_trans (below_size (by repeat (first | (with_reducible first | exact HB.out | apply below_alloc | apply pw_below_drewN | apply below_drew1) | exact HB.out))) hk)) _ (Nat.le_refl _)) (Below.refl _ _) (Nat.le_refl _) (by simp) ?_; (case hd => rfl); (case hg => rfl); (case hr => first | (go_simp; done) | (go_simp; rfl)); (case hp => exact (Reps.one (show Kd.FK (Kd.slice 3 (Kd.int .i64)) _ _ y208 [.slice Ao5 y208.length co5] from (Kd.FK_slice_mk (Kd.R_reads' (Kd.R_mono (ok' := (fun k_ => (w.heap.size ≤ k_))) (HO210.out) (fun k_ hk => hk.1.1))).2.1 (Kd.R_F (Kd.R_mono (ok' := (fun k_ => (w.heap.size ≤ k_))) (HO210.out) (fun k_ hk => hk.1.1))))) (Reps.one (show Kd.FK (Kd.slice 3 (Kd.int .i64)) _ _ y211 [.slice Ao6 y211.length co6] from (Kd.FK_slice_mk (Kd.R_reads' (Kd.R_mono (ok' := (fun k_ => (w.heap.size ≤ k_))) (HO213.out) (fun k_ hk => hk.1.1))).2.1 (Kd.R_F (Kd.R_mono (ok' := (fun k_ => (w.heap.size ≤ k_))) (HO213.out) (fun k_ hk => hk.1.1))))) (Reps.none _ _)))); intro v215 w7 ho8 hb hg_ hnew_; clear hg_ hnew_; (first | rw [← Ny214.out] at ho8 | (simp only [Int.reduceToNat] at ho8; rw [← Ny214.out] at ho8)); have n0_ := Aside0.mk (Kd.N_lower ho8 (below_size (by repeat (first | (with_reducible first | exact HB.out | apply below_alloc | apply pw_below_drewN | apply below_drew1) | exact HB.out)))); have n1_ := Aside0.mk (below_step (by repeat (first | (with_reducible first | exact HB.out | apply below_alloc | apply pw_below_drewN | apply below_drew1) | exact HB.out)) hb); clear HB; clear HO210; clear HO213; have HO216 := n0_; have HB := n1_; clear n0_ n1_; clear hb ho8))
  go_ret
  exact ⟨_, by first | rfl | (simp [errW_none, errW_some] <;> rfl) | (simp [*, errW_none, errW_some] <;> rfl), by (with_reducible repeat (first | apply Kd.N_alloc | apply Kd.N_drewN | apply Kd.N_drew)); exact HO216.out, by repeat (first | (with_reducible first | exact HB.out | apply below_alloc | apply pw_below_drewN | apply below_drew1) | exact HB.out)⟩

/-! ### railplanlaw33_awake: function 17 -/
def railplanlaw33_awake.f (k : Nat)  : Option (Bool) := (railplanlaw33_example.f).bind fun t217 => ((maxplus_Mean.f k t217).bind fun bt220 => ((railplanlaw33_example.f).bind fun t223 => ((maxplus_Power.f k t223 2).bind fun bt226 => ((railplanlaw33_example.f).bind fun t230 => ((maxplus_Recover.f k t230 (([2, 0] : List Int)) 4 9).bind fun bt236 => (if bt220.2.2 = true then (if bt220.1 = 5 then (if bt220.2.1 = 2 then (if bt226.2 = 0 then ((railplankeep_SameLists_int.f k bt226.1 (([(([5, (-1125899906842624)] : List Int)), (([(-1125899906842624), 5] : List Int))] : List (List Int)))).bind fun t247 => (if t247 = true then (if bt236.2 = true then (if bt236.1 = 1 then ((railplanlaw33_example.f).bind fun t248 => ((maxplus_Check.f k t248).bind fun t251 => (some t251))) else (some false)) else (some false)) else (some false))) else (some false)) else (some false)) else (some false)) else (some false)))))))
theorem railplanlaw33_awake.mono : ∀ k, LeO (railplanlaw33_awake.f k ) (railplanlaw33_awake.f (k + 1) ) := by
  intro  k
  unfold railplanlaw33_awake.f
  repeat' first
      | (with_reducible exact maxplus_Check.mono _ _)
      | (with_reducible exact maxplus_Mean.mono _ _)
      | (with_reducible exact maxplus_Power.mono _ _ _)
      | (with_reducible exact maxplus_Recover.mono _ _ _ _ _)
      | (with_reducible exact railplankeep_SameLists_int.mono _ _ _)
      | (with_reducible exact LeO.refl _)
      | (with_reducible exact LeO.none _)
      | (with_reducible refine LeO.ite ?_ ?_)
      | (with_reducible refine LeO.bind ?_ (fun _ => ?_))
      | exact maxplus_Check.mono _ _
      | exact maxplus_Mean.mono _ _
      | exact maxplus_Power.mono _ _ _
      | exact maxplus_Recover.mono _ _ _ _ _
      | exact railplankeep_SameLists_int.mono _ _ _
      | exact LeO.none _
      | refine LeO.ite ?_ ?_
      | refine LeO.bind ?_ (fun _ => ?_)
set_option maxHeartbeats 8000000 in
set_option maxRecDepth 100000 in
theorem railplanlaw33_awake.calls (k : Nat)  (r : Bool) (w : World) (h : railplanlaw33_awake.f k  = some r) (hT : Aside0 (r = true)) :
    Calls Try.prog 17 #[] w fun e w' => e = .returned (.bool r) ∧ Below w.heap.size w w' := by
  have HB := Aside0.mk (Below.refl w.heap.size w)
  have H : ((railplanlaw33_example.f).bind fun t217 => ((maxplus_Mean.f k t217).bind fun bt220 => ((railplanlaw33_example.f).bind fun t223 => ((maxplus_Power.f k t223 2).bind fun bt226 => ((railplanlaw33_example.f).bind fun t230 => ((maxplus_Recover.f k t230 (([2, 0] : List Int)) 4 9).bind fun bt236 => (if bt220.2.2 = true then (if bt220.1 = 5 then (if bt220.2.1 = 2 then (if bt226.2 = 0 then ((railplankeep_SameLists_int.f k bt226.1 (([(([5, (-1125899906842624)] : List Int)), (([(-1125899906842624), 5] : List Int))] : List (List Int)))).bind fun t247 => (if t247 = true then (if bt236.2 = true then (if bt236.1 = 1 then ((railplanlaw33_example.f).bind fun t248 => ((maxplus_Check.f k t248).bind fun t251 => (some t251))) else (some false)) else (some false)) else (some false))) else (some false)) else (some false)) else (some false)) else (some false)))))))) = some r := h
  clear h
  replace H := Option.bind_eq_some_iff.mp H
  obtain ⟨t217, A10, H⟩ := H
  replace H : ((maxplus_Mean.f k t217).bind fun bt220 => ((railplanlaw33_example.f).bind fun t223 => ((maxplus_Power.f k t223 2).bind fun bt226 => ((railplanlaw33_example.f).bind fun t230 => ((maxplus_Recover.f k t230 (([2, 0] : List Int)) 4 9).bind fun bt236 => (if bt220.2.2 = true then (if bt220.1 = 5 then (if bt220.2.1 = 2 then (if bt226.2 = 0 then ((railplankeep_SameLists_int.f k bt226.1 (([(([5, (-1125899906842624)] : List Int)), (([(-1125899906842624), 5] : List Int))] : List (List Int)))).bind fun t247 => (if t247 = true then (if bt236.2 = true then (if bt236.1 = 1 then ((railplanlaw33_example.f).bind fun t248 => ((maxplus_Check.f k t248).bind fun t251 => (some t251))) else (some false)) else (some false)) else (some false))) else (some false)) else (some false)) else (some false)) else (some false))))))) = some r := H
  have A1 := Aside0.mk A10
  clear A10
  replace H := Option.bind_eq_some_iff.mp H
  obtain ⟨⟨t220, t221, t222⟩, A20, H⟩ := H
  replace H : ((railplanlaw33_example.f).bind fun t223 => ((maxplus_Power.f k t223 2).bind fun bt226 => ((railplanlaw33_example.f).bind fun t230 => ((maxplus_Recover.f k t230 (([2, 0] : List Int)) 4 9).bind fun bt236 => (if t222 = true then (if t220 = 5 then (if t221 = 2 then (if bt226.2 = 0 then ((railplankeep_SameLists_int.f k bt226.1 (([(([5, (-1125899906842624)] : List Int)), (([(-1125899906842624), 5] : List Int))] : List (List Int)))).bind fun t247 => (if t247 = true then (if bt236.2 = true then (if bt236.1 = 1 then ((railplanlaw33_example.f).bind fun t248 => ((maxplus_Check.f k t248).bind fun t251 => (some t251))) else (some false)) else (some false)) else (some false))) else (some false)) else (some false)) else (some false)) else (some false)))))) = some r := H
  have A2 := Aside0.mk A20
  clear A20
  replace H := Option.bind_eq_some_iff.mp H
  obtain ⟨t223, A30, H⟩ := H
  replace H : ((maxplus_Power.f k t223 2).bind fun bt226 => ((railplanlaw33_example.f).bind fun t230 => ((maxplus_Recover.f k t230 (([2, 0] : List Int)) 4 9).bind fun bt236 => (if t222 = true then (if t220 = 5 then (if t221 = 2 then (if bt226.2 = 0 then ((railplankeep_SameLists_int.f k bt226.1 (([(([5, (-1125899906842624)] : List Int)), (([(-1125899906842624), 5] : List Int))] : List (List Int)))).bind fun t247 => (if t247 = true then (if bt236.2 = true then (if bt236.1 = 1 then ((railplanlaw33_example.f).bind fun t248 => ((maxplus_Check.f k t248).bind fun t251 => (some t251))) else (some false)) else (some false)) else (some false))) else (some false)) else (some false)) else (some false)) else (some false))))) = some r := H
  have A3 := Aside0.mk A30
  clear A30
  replace H := Option.bind_eq_some_iff.mp H
  obtain ⟨⟨t226, t227⟩, A40, H⟩ := H
  replace H : ((railplanlaw33_example.f).bind fun t230 => ((maxplus_Recover.f k t230 (([2, 0] : List Int)) 4 9).bind fun bt236 => (if t222 = true then (if t220 = 5 then (if t221 = 2 then (if t227 = 0 then ((railplankeep_SameLists_int.f k t226 (([(([5, (-1125899906842624)] : List Int)), (([(-1125899906842624), 5] : List Int))] : List (List Int)))).bind fun t247 => (if t247 = true then (if bt236.2 = true then (if bt236.1 = 1 then ((railplanlaw33_example.f).bind fun t248 => ((maxplus_Check.f k t248).bind fun t251 => (some t251))) else (some false)) else (some false)) else (some false))) else (some false)) else (some false)) else (some false)) else (some false)))) = some r := H
  have A4 := Aside0.mk A40
  clear A40
  replace H := Option.bind_eq_some_iff.mp H
  obtain ⟨t230, A50, H⟩ := H
  replace H : ((maxplus_Recover.f k t230 (([2, 0] : List Int)) 4 9).bind fun bt236 => (if t222 = true then (if t220 = 5 then (if t221 = 2 then (if t227 = 0 then ((railplankeep_SameLists_int.f k t226 (([(([5, (-1125899906842624)] : List Int)), (([(-1125899906842624), 5] : List Int))] : List (List Int)))).bind fun t247 => (if t247 = true then (if bt236.2 = true then (if bt236.1 = 1 then ((railplanlaw33_example.f).bind fun t248 => ((maxplus_Check.f k t248).bind fun t251 => (some t251))) else (some false)) else (some false)) else (some false))) else (some false)) else (some false)) else (some false)) else (some false))) = some r := H
  have A5 := Aside0.mk A50
  clear A50
  obtain ⟨y233, hy233⟩ : ∃ y_ : List Int, y_ = (([2, 0] : List Int)) := ⟨_, rfl⟩
  replace H : ((maxplus_Recover.f k t230 y233 4 9).bind fun bt236 => (if t222 = true then (if t220 = 5 then (if t221 = 2 then (if t227 = 0 then ((railplankeep_SameLists_int.f k t226 (([(([5, (-1125899906842624)] : List Int)), (([(-1125899906842624), 5] : List Int))] : List (List Int)))).bind fun t247 => (if t247 = true then (if bt236.2 = true then (if bt236.1 = 1 then ((railplanlaw33_example.f).bind fun t248 => ((maxplus_Check.f k t248).bind fun t251 => (some t251))) else (some false)) else (some false)) else (some false))) else (some false)) else (some false)) else (some false)) else (some false))) = some r := by first | (rw [hy233]; with_reducible exact H) | (have H2_ := (Option.bind_some _ _).symm.trans H; rw [hy233]; with_reducible exact H2_) | (have H2_ := (Option.bind_some _ _).symm.trans H; with_reducible exact H2_) | with_reducible exact H | (rw [hy233]; exact H) | exact H
  have Ny233 := Aside0.mk hy233
  clear hy233
  replace H := Option.bind_eq_some_iff.mp H
  obtain ⟨⟨t236, t237⟩, A60, H⟩ := H
  replace H : (if t222 = true then (if t220 = 5 then (if t221 = 2 then (if t227 = 0 then ((railplankeep_SameLists_int.f k t226 (([(([5, (-1125899906842624)] : List Int)), (([(-1125899906842624), 5] : List Int))] : List (List Int)))).bind fun t247 => (if t247 = true then (if t237 = true then (if t236 = 1 then ((railplanlaw33_example.f).bind fun t248 => ((maxplus_Check.f k t248).bind fun t251 => (some t251))) else (some false)) else (some false)) else (some false))) else (some false)) else (some false)) else (some false)) else (some false)) = some r := H
  have A6 := Aside0.mk A60
  clear A60
  by_cases c7 : t222 = true
  · subst c7
    have H1 : (if t220 = 5 then (if t221 = 2 then (if t227 = 0 then ((railplankeep_SameLists_int.f k t226 (([(([5, (-1125899906842624)] : List Int)), (([(-1125899906842624), 5] : List Int))] : List (List Int)))).bind fun t247 => (if t247 = true then (if t237 = true then (if t236 = 1 then ((railplanlaw33_example.f).bind fun t248 => ((maxplus_Check.f k t248).bind fun t251 => (some t251))) else (some false)) else (some false)) else (some false))) else (some false)) else (some false)) else (some false)) = some r := by rw [if_pos rfl] at H; exact H
    clear H
    have H := H1
    clear H1
    by_cases c8 : t220 = 5
    · rw [if_pos c8] at H
      have c8b0 : (t220 == 5) = true := beq_iff_eq.mpr c8
      have c8b1 : (t220 != 5) = false := bne_eq_false_iff_eq.mpr c8
      clear c8
      by_cases c9 : t221 = 2
      · rw [if_pos c9] at H
        have c9b0 : (t221 == 2) = true := beq_iff_eq.mpr c9
        have c9b1 : (t221 != 2) = false := bne_eq_false_iff_eq.mpr c9
        clear c9
        by_cases c10 : t227 = 0
        · rw [if_pos c10] at H
          have c10b0 : (t227 == 0) = true := beq_iff_eq.mpr c10
          have c10b1 : (t227 != 0) = false := bne_eq_false_iff_eq.mpr c10
          clear c10
          obtain ⟨y238, hy238⟩ : ∃ y_ : List Int, y_ = (([5, (-1125899906842624)] : List Int)) := ⟨_, rfl⟩
          replace H : ((railplankeep_SameLists_int.f k t226 (([y238, (([(-1125899906842624), 5] : List Int))] : List (List Int)))).bind fun t247 => (if t247 = true then (if t237 = true then (if t236 = 1 then ((railplanlaw33_example.f).bind fun t248 => ((maxplus_Check.f k t248).bind fun t251 => (some t251))) else (some false)) else (some false)) else (some false))) = some r := by first | (rw [hy238]; with_reducible exact H) | (have H2_ := (Option.bind_some _ _).symm.trans H; rw [hy238]; with_reducible exact H2_) | (have H2_ := (Option.bind_some _ _).symm.trans H; with_reducible exact H2_) | with_reducible exact H | (rw [hy238]; exact H) | exact H
          have Ny238 := Aside0.mk hy238
          clear hy238
          obtain ⟨y241, hy241⟩ : ∃ y_ : List Int, y_ = (([(-1125899906842624), 5] : List Int)) := ⟨_, rfl⟩
          replace H : ((railplankeep_SameLists_int.f k t226 (([y238, y241] : List (List Int)))).bind fun t247 => (if t247 = true then (if t237 = true then (if t236 = 1 then ((railplanlaw33_example.f).bind fun t248 => ((maxplus_Check.f k t248).bind fun t251 => (some t251))) else (some false)) else (some false)) else (some false))) = some r := by first | (rw [hy241]; with_reducible exact H) | (have H2_ := (Option.bind_some _ _).symm.trans H; rw [hy241]; with_reducible exact H2_) | (have H2_ := (Option.bind_some _ _).symm.trans H; with_reducible exact H2_) | with_reducible exact H | (rw [hy241]; exact H) | exact H
          have Ny241 := Aside0.mk hy241
          clear hy241
          obtain ⟨y244, hy244⟩ : ∃ y_ : List (List Int), y_ = (([y238, y241] : List (List Int))) := ⟨_, rfl⟩
          replace H : ((railplankeep_SameLists_int.f k t226 y244).bind fun t247 => (if t247 = true then (if t237 = true then (if t236 = 1 then ((railplanlaw33_example.f).bind fun t248 => ((maxplus_Check.f k t248).bind fun t251 => (some t251))) else (some false)) else (some false)) else (some false))) = some r := by first | (rw [hy244]; with_reducible exact H) | (have H2_ := (Option.bind_some _ _).symm.trans H; rw [hy244]; with_reducible exact H2_) | (have H2_ := (Option.bind_some _ _).symm.trans H; with_reducible exact H2_) | with_reducible exact H | (rw [hy244]; exact H) | exact H
          have Ny244 := Aside0.mk hy244
          clear hy244
          replace H := Option.bind_eq_some_iff.mp H
          obtain ⟨t247, A110, H⟩ := H
          replace H : (if t247 = true then (if t237 = true then (if t236 = 1 then ((railplanlaw33_example.f).bind fun t248 => ((maxplus_Check.f k t248).bind fun t251 => (some t251))) else (some false)) else (some false)) else (some false)) = some r := H
          have A11 := Aside0.mk A110
          clear A110
          by_cases c12 : t247 = true
          · subst c12
            have H1 : (if t237 = true then (if t236 = 1 then ((railplanlaw33_example.f).bind fun t248 => ((maxplus_Check.f k t248).bind fun t251 => (some t251))) else (some false)) else (some false)) = some r := by rw [if_pos rfl] at H; exact H
            clear H
            have H := H1
            clear H1
            by_cases c13 : t237 = true
            · subst c13
              have H1 : (if t236 = 1 then ((railplanlaw33_example.f).bind fun t248 => ((maxplus_Check.f k t248).bind fun t251 => (some t251))) else (some false)) = some r := by rw [if_pos rfl] at H; exact H
              clear H
              have H := H1
              clear H1
              by_cases c14 : t236 = 1
              · rw [if_pos c14] at H
                have c14b0 : (t236 == 1) = true := beq_iff_eq.mpr c14
                have c14b1 : (t236 != 1) = false := bne_eq_false_iff_eq.mpr c14
                clear c14
                replace H := Option.bind_eq_some_iff.mp H
                obtain ⟨t248, A150, H⟩ := H
                replace H : ((maxplus_Check.f k t248).bind fun t251 => (some t251)) = some r := H
                have A15 := Aside0.mk A150
                clear A150
                replace H := Option.bind_eq_some_iff.mp H
                obtain ⟨t251, A160, H⟩ := H
                replace H : (some t251) = some r := H
                have A16 := Aside0.mk A160
                clear A160
                obtain rfl := Option.some.inj H
                go_enter Try.func17, Try.ntmps17
                go_wp2_with (first | ((with_reducible refine gate_callee (f := 37) rfl ?_); refine goesL_ (some 9) rfl rfl Try.func37 (by kernel_rfl) rfl #[] rfl (by (try simp only [List.map_toArray, List.map_cons, List.map_nil]); first | done | rfl | (simp only [List.length_drop, List.length_take]; rfl)) ?_; (with_reducible refine (railplanlaw33_example.calls  t217 _ A1.out).mono ?_); rintro e w17 ⟨v218, rfl, ho0, hb⟩; refine ⟨_, rfl, ?_⟩; have n0_ := Aside0.mk (Kd.N_lower (Kd.N_mono (ok' := fun k_ => True) ho0 (fun k_ hk_ => trivial)) (below_size (by repeat (first | (with_reducible first | exact HB.out | apply below_alloc | apply pw_below_drewN | apply below_drew1) | exact HB.out)))); have n1_ := Aside0.mk (below_step (by repeat (first | (with_reducible first | exact HB.out | apply below_alloc | apply pw_below_drewN | apply below_drew1) | exact HB.out)) hb); clear HB; have HO219 := n0_; have HB := n1_; clear n0_ n1_; (try clear hb); (try clear hb2); (try clear hk); (try clear hi); (try clear ho0); obtain ⟨Ao18, co18, eo18⟩ := Kd.N_slice HO219.out; subst eo18) | ((with_reducible refine gate_callee (f := 20) rfl ?_); refine goesL_ (some 10) rfl rfl Try.func20 (by kernel_rfl) rfl #[.slice Ao18 t217.length co18] rfl (by (try simp only [List.map_toArray, List.map_cons, List.map_nil]); first | done | rfl | (simp only [List.length_drop, List.length_take]; rfl)) ?_; (with_reducible refine (maxplus_Mean.calls k _ _ t217 t220 t221 true _ ?side1 ?side2 A2.out).mono ?_); (case side1 => repeat (first | exact (Kd.N_reads' HO219.out).2.2 | (with_reducible refine Kd.C_alloc ?_ _) | (with_reducible refine Kd.C_drewN ?_ _) | (with_reducible refine Kd.C_drew ?_))); (case side2 => exact (Kd.N_reads' HO219.out).2.1); rintro e w19 ⟨rfl, hb⟩; refine ⟨_, rfl, ?_⟩; have n0_ := Aside0.mk (Kd.N_below (by (with_reducible repeat (first | apply Kd.N_alloc | apply Kd.N_drewN | apply Kd.N_drew)); exact HO219.out) hb); have n1_ := Aside0.mk (below_step (by repeat (first | (with_reducible first | exact HB.out | apply below_alloc | apply pw_below_drewN | apply below_drew1) | exact HB.out)) hb); clear HO219; clear HB; have HO219 := n0_; have HB := n1_; clear n0_ n1_; (try clear hb); (try clear hb2); (try clear hk); (try clear hi)) | ((with_reducible refine gate_callee (f := 37) rfl ?_); refine goesL_ (some 15) rfl rfl Try.func37 (by kernel_rfl) rfl #[] rfl (by (try simp only [List.map_toArray, List.map_cons, List.map_nil]); first | done | rfl | (simp only [List.length_drop, List.length_take]; rfl)) ?_; (with_reducible refine (railplanlaw33_example.calls  t223 _ A3.out).mono ?_); rintro e w20 ⟨v224, rfl, ho0, hb⟩; refine ⟨_, rfl, ?_⟩; have n0_ := Aside0.mk (Kd.N_elder' (by (with_reducible repeat (first | apply Kd.N_alloc | apply Kd.N_drewN | apply Kd.N_drew)); exact HO219.out) (by first | exact Kd.N_base ho0 | exact Kd.S_base ho0 | exact Kd.R_base ho0 | exact Kd.Q_base ho0) hb); have n1_ := Aside0.mk (Kd.N_lower (Kd.N_mono (ok' := fun k_ => some k_ ≠ (.slice Ao18 t217.length co18 : Value).ownBlock) ho0 (fun k_ hk_ => (Kd.fresh' (Kd.N_lt (by (with_reducible repeat (first | apply Kd.N_alloc | apply Kd.N_drewN | apply Kd.N_drew)); exact HO219.out)) k_ hk_))) (below_size (by repeat (first | (with_reducible first | exact HB.out | apply below_alloc | apply pw_below_drewN | apply below_drew1) | exact HB.out)))); have n2_ := Aside0.mk (below_step (by repeat (first | (with_reducible first | exact HB.out | apply below_alloc | apply pw_below_drewN | apply below_drew1) | exact HB.out)) hb); clear HO219; clear HB; have HO219 := n0_; have HO225 := n1_; have HB := n2_; clear n0_ n1_ n2_; (try clear hb); (try clear hb2); (try clear hk); (try clear hi); (try clear ho0); obtain ⟨Ao21, co21, eo21⟩ := Kd.N_slice HO225.out; subst eo21) | ((with_reducible refine gate_callee (f := 15) rfl ?_); refine goesL_ (some 16) rfl rfl Try.func15 (by kernel_rfl) rfl #[.slice Ao21 t223.length co21, .int .i64 2] rfl (by (try simp only [List.map_toArray, List.map_cons, List.map_nil]); first | done | rfl | (simp only [List.length_drop, List.length_take]; rfl)) ?_; (with_reducible refine (maxplus_Power.calls k _ _ t223 2 t226 t227 _ ?side1 ?side2 A4.out).mono ?_); (case side1 => repeat (first | exact (Kd.N_reads' HO225.out).2.2 | (with_reducible refine Kd.C_alloc ?_ _) | (with_reducible refine Kd.C_drewN ?_ _) | (with_reducible refine Kd.C_drew ?_))); (case side2 => exact (Kd.N_reads' HO225.out).2.1); rintro e w22 ⟨v228, rfl, ho0, hb⟩; refine ⟨_, rfl, ?_⟩; have n0_ := Aside0.mk (Kd.N_elder' (by (with_reducible repeat (first | apply Kd.N_alloc | apply Kd.N_drewN | apply Kd.N_drew)); exact HO219.out) (by first | exact Kd.N_base ho0 | exact Kd.S_base ho0 | exact Kd.R_base ho0 | exact Kd.Q_base ho0) hb); have n1_ := Aside0.mk (Kd.N_elder' (by (with_reducible repeat (first | apply Kd.N_alloc | apply Kd.N_drewN | apply Kd.N_drew)); exact HO225.out) (by first | exact Kd.N_base ho0 | exact Kd.S_base ho0 | exact Kd.R_base ho0 | exact Kd.Q_base ho0) hb); have n2_ := Aside0.mk (Kd.N_lower (Kd.N_mono (ok' := fun k_ => some k_ ≠ (.slice Ao18 t217.length co18 : Value).ownBlock ∧ some k_ ≠ (.slice Ao21 t223.length co21 : Value).ownBlock) (Kd.S_N (Kd.S_bound ho0)) (fun k_ hk_ => ⟨(Kd.fresh' (Kd.N_lt (by (with_reducible repeat (first | apply Kd.N_alloc | apply Kd.N_drewN | apply Kd.N_drew)); exact HO219.out)) k_ hk_.2.1), (Kd.fresh' (Kd.N_lt (by (with_reducible repeat (first | apply Kd.N_alloc | apply Kd.N_drewN | apply Kd.N_drew)); exact HO225.out)) k_ hk_.2.1)⟩)) (below_size (by repeat (first | (with_reducible first | exact HB.out | apply below_alloc | apply pw_below_drewN | apply below_drew1) | exact HB.out)))); have n3_ := Aside0.mk (below_step (by repeat (first | (with_reducible first | exact HB.out | apply below_alloc | apply pw_below_drewN | apply below_drew1) | exact HB.out)) hb); clear HO219; clear HO225; clear HB; have HO219 := n0_; have HO225 := n1_; have HO229 := n2_; have HB := n3_; clear n0_ n1_ n2_ n3_; (try clear hb); (try clear hb2); (try clear hk); (try clear hi); (try clear ho0)) | ((with_reducible refine gate_callee (f := 37) rfl ?_); refine goesL_ (some 20) rfl rfl Try.func37 (by kernel_rfl) rfl #[] rfl (by (try simp only [List.map_toArray, List.map_cons, List.map_nil]); first | done | rfl | (simp only [List.length_drop, List.length_take]; rfl)) ?_; (with_reducible refine (railplanlaw33_example.calls  t230 _ A5.out).mono ?_); rintro e w23 ⟨v231, rfl, ho0, hb⟩; refine ⟨_, rfl, ?_⟩; have n0_ := Aside0.mk (Kd.N_elder' (by (with_reducible repeat (first | apply Kd.N_alloc | apply Kd.N_drewN | apply Kd.N_drew)); exact HO219.out) (by first | exact Kd.N_base ho0 | exact Kd.S_base ho0 | exact Kd.R_base ho0 | exact Kd.Q_base ho0) hb); have n1_ := Aside0.mk (Kd.N_elder' (by (with_reducible repeat (first | apply Kd.N_alloc | apply Kd.N_drewN | apply Kd.N_drew)); exact HO225.out) (by first | exact Kd.N_base ho0 | exact Kd.S_base ho0 | exact Kd.R_base ho0 | exact Kd.Q_base ho0) hb); have n2_ := Aside0.mk (Kd.N_elder' (by (with_reducible repeat (first | apply Kd.N_alloc | apply Kd.N_drewN | apply Kd.N_drew)); exact HO229.out) (by first | exact Kd.N_base ho0 | exact Kd.S_base ho0 | exact Kd.R_base ho0 | exact Kd.Q_base ho0) hb); have n3_ := Aside0.mk (Kd.N_lower (Kd.N_mono (ok' := fun k_ => some k_ ≠ (.slice Ao18 t217.length co18 : Value).ownBlock ∧ some k_ ≠ (.slice Ao21 t223.length co21 : Value).ownBlock ∧ some k_ ≠ (v228 : Value).ownBlock) ho0 (fun k_ hk_ => ⟨(Kd.fresh' (Kd.N_lt (by (with_reducible repeat (first | apply Kd.N_alloc | apply Kd.N_drewN | apply Kd.N_drew)); exact HO219.out)) k_ hk_), (Kd.fresh' (Kd.N_lt (by (with_reducible repeat (first | apply Kd.N_alloc | apply Kd.N_drewN | apply Kd.N_drew)); exact HO225.out)) k_ hk_), (Kd.fresh' (Kd.N_lt (by (with_reducible repeat (first | apply Kd.N_alloc | apply Kd.N_drewN | apply Kd.N_drew)); exact HO229.out)) k_ hk_)⟩)) (below_size (by repeat (first | (with_reducible first | exact HB.out | apply below_alloc | apply pw_below_drewN | apply below_drew1) | exact HB.out)))); have n4_ := Aside0.mk (below_step (by repeat (first | (with_reducible first | exact HB.out | apply below_alloc | apply pw_below_drewN | apply below_drew1) | exact HB.out)) hb); clear HO219; clear HO225; clear HO229; clear HB; have HO219 := n0_; have HO225 := n1_; have HO229 := n2_; have HO232 := n3_; have HB := n4_; clear n0_ n1_ n2_ n3_ n4_; (try clear hb); (try clear hb2); (try clear hk); (try clear hi); (try clear ho0)) | ((with_reducible refine gate_dst (N := 21) rfl ?_); (try (refine gate_guard (by rfl) ?_; dsimp only)); refine Kd.R_lit (Kd.int .i64) _ 3 ?hg (N := 21) ?hd (xs := ([2, 0] : List Int)) (inner := [.int .i64 2, .int .i64 0]) (ok := fun _ => True) (okp := fun _ => True) ?hr ?hp (fun _ hk => hk) trivial (Below.refl _ _) (Nat.le_refl _) (by simp) ?_; (case hd => rfl); (case hg => rfl); (case hr => first | (go_simp; done) | (go_simp; rfl)); (case hp => exact (Reps.one (show Kd.M (Kd.int .i64) _ _ _ 2 [.int .i64 2] from rfl) (Reps.one (show Kd.M (Kd.int .i64) _ _ _ 0 [.int .i64 0] from rfl) (Reps.none _ _)))); intro v234 w24 ho25 hb hg_ hnew_; clear hg_ hnew_; (first | rw [← Ny233.out] at ho25 | (simp only [Int.reduceToNat] at ho25; rw [← Ny233.out] at ho25)); have n0_ := Aside0.mk (Kd.N_elder' (by (with_reducible repeat (first | apply Kd.N_alloc | apply Kd.N_drewN | apply Kd.N_drew)); exact HO219.out) (by first | exact Kd.N_base ho25 | exact Kd.S_base ho25 | exact Kd.R_base ho25 | exact Kd.Q_base ho25) hb); have n1_ := Aside0.mk (Kd.N_elder' (by (with_reducible repeat (first | apply Kd.N_alloc | apply Kd.N_drewN | apply Kd.N_drew)); exact HO225.out) (by first | exact Kd.N_base ho25 | exact Kd.S_base ho25 | exact Kd.R_base ho25 | exact Kd.Q_base ho25) hb); have n2_ := Aside0.mk (Kd.N_elder' (by (with_reducible repeat (first | apply Kd.N_alloc | apply Kd.N_drewN | apply Kd.N_drew)); exact HO229.out) (by first | exact Kd.N_base ho25 | exact Kd.S_base ho25 | exact Kd.R_base ho25 | exact Kd.Q_base ho25) hb); have n3_ := Aside0.mk (Kd.N_elder' (by (with_reducible repeat (first | apply Kd.N_alloc | apply Kd.N_drewN | apply Kd.N_drew)); exact HO232.out) (by first | exact Kd.N_base ho25 | exact Kd.S_base ho25 | exact Kd.R_base ho25 | exact Kd.Q_base ho25) hb); have n4_ := Aside0.mk (Kd.R_lower ho25 (below_size (by repeat (first | (with_reducible first | exact HB.out | apply below_alloc | apply pw_below_drewN | apply below_drew1) | exact HB.out)))); have n5_ := Aside0.mk (below_step (by repeat (first | (with_reducible first | exact HB.out | apply below_alloc | apply pw_below_drewN | apply below_drew1) | exact HB.out)) hb); clear HO219; clear HO225; clear HO229; clear HO232; clear HB; have HO219 := n0_; have HO225 := n1_; have HO229 := n2_; have HO232 := n3_; have HO235 := n4_; have HB := n5_; clear n0_ n1_ n2_ n3_ n4_ n5_; clear hb ho25; obtain ⟨Ao26, co26, eo26⟩ := Kd.N_slice HO232.out; subst eo26; obtain ⟨Ao27, co27, eo27⟩ := Kd.R_slice HO235.out; subst eo27) | ((with_reducible refine gate_callee (f := 21) rfl ?_); refine goesL_ (some 22) rfl rfl Try.func21 (by kernel_rfl) rfl #[.slice Ao26 t230.length co26, .slice Ao27 y233.length co27, .int .i64 4, .int .i64 9] rfl (by (try simp only [List.map_toArray, List.map_cons, List.map_nil]); first | done | rfl | (simp only [List.length_drop, List.length_take]; rfl)) ?_; (with_reducible refine (maxplus_Recover.calls k _ _ t230 (fun k_ => some k_ = (.slice Ao27 y233.length co27 : Value).ownBlock) _ _ y233 4 9 t236 true _ ?side1 ?side2 ?side3 A6.out).mono ?_); (case side1 => repeat (first | exact (Kd.N_reads' HO232.out).2.2 | (with_reducible refine Kd.C_alloc ?_ _) | (with_reducible refine Kd.C_drewN ?_ _) | (with_reducible refine Kd.C_drew ?_))); (case side2 => exact (Kd.N_reads' HO232.out).2.1); (case side3 => exact Kd.R_V (Kd.R_tight rfl (Kd.R_apart' (Kd.R_apart' (Kd.R_apart' (Kd.R_apart' (HO235.out) (Kd.N_typed HO219.out) (by decide)) (Kd.N_typed HO225.out) (by decide)) (Kd.N_typed HO229.out) (by decide)) (Kd.N_typed HO232.out) (by decide)))); rintro e w28 ⟨rfl, hb⟩; refine ⟨_, rfl, ?_⟩; have n0_ := Aside0.mk (Kd.N_below (by (with_reducible repeat (first | apply Kd.N_alloc | apply Kd.N_drewN | apply Kd.N_drew)); exact HO219.out) hb); have n1_ := Aside0.mk (Kd.N_below (by (with_reducible repeat (first | apply Kd.N_alloc | apply Kd.N_drewN | apply Kd.N_drew)); exact HO225.out) hb); have n2_ := Aside0.mk (Kd.N_below (by (with_reducible repeat (first | apply Kd.N_alloc | apply Kd.N_drewN | apply Kd.N_drew)); exact HO229.out) hb); have n3_ := Aside0.mk (Kd.N_below (by (with_reducible repeat (first | apply Kd.N_alloc | apply Kd.N_drewN | apply Kd.N_drew)); exact HO232.out) hb); have n4_ := Aside0.mk (Kd.R_below (by (with_reducible repeat (first | apply Kd.R_alloc | apply Kd.R_drewN | apply Kd.R_drew)); exact HO235.out) hb); have n5_ := Aside0.mk (below_step (by repeat (first | (with_reducible first | exact HB.out | apply below_alloc | apply pw_below_drewN | apply below_drew1) | exact HB.out)) hb); clear HO219; clear HO225; clear HO229; clear HO232; clear HO235; clear HB; have HO219 := n0_; have HO225 := n1_; have HO229 := n2_; have HO232 := n3_; have HO235 := n4_; have HB := n5_; clear n0_ n1_ n2_ n3_ n4_ n5_; (try clear hb); (try clear hb2); (try clear hk); (try clear hi)) | ((with_reducible refine gate_dst (N := 40) rfl ?_); (try (refine gate_guard (by rfl) ?_; dsimp only)); refine Kd.R_lit (Kd.int .i64) _ 3 ?hg (N := 40) ?hd (xs := ([5, (-1125899906842624)] : List Int)) (inner := [.int .i64 5, .int .i64 (-1125899906842624)]) (ok := fun _ => True) (okp := fun _ => True) ?hr ?hp (fun _ hk => hk) trivial (Below.refl _ _) (Nat.le_refl _) (by simp) ?_; (case hd => rfl); (case hg => rfl); (case hr => first | (go_simp; done) | (go_simp; rfl)); (case hp => exact (Reps.one (show Kd.M (Kd.int .i64) _ _ _ 5 [.int .i64 5] from rfl) (Reps.one (show Kd.M (Kd.int .i64) _ _ _ (-1125899906842624) [.int .i64 (-1125899906842624)] from rfl) (Reps.none _ _)))); intro v239 w29 ho30 hb hg_ hnew_; clear hg_ hnew_; (first | rw [← Ny238.out] at ho30 | (simp only [Int.reduceToNat] at ho30; rw [← Ny238.out] at ho30)); have n0_ := Aside0.mk (Kd.N_elder' (by (with_reducible repeat (first | apply Kd.N_alloc | apply Kd.N_drewN | apply Kd.N_drew)); exact HO219.out) (by first | exact Kd.N_base ho30 | exact Kd.S_base ho30 | exact Kd.R_base ho30 | exact Kd.Q_base ho30) hb); have n1_ := Aside0.mk (Kd.N_elder' (by (with_reducible repeat (first | apply Kd.N_alloc | apply Kd.N_drewN | apply Kd.N_drew)); exact HO225.out) (by first | exact Kd.N_base ho30 | exact Kd.S_base ho30 | exact Kd.R_base ho30 | exact Kd.Q_base ho30) hb); have n2_ := Aside0.mk (Kd.N_elder' (by (with_reducible repeat (first | apply Kd.N_alloc | apply Kd.N_drewN | apply Kd.N_drew)); exact HO229.out) (by first | exact Kd.N_base ho30 | exact Kd.S_base ho30 | exact Kd.R_base ho30 | exact Kd.Q_base ho30) hb); have n3_ := Aside0.mk (Kd.N_elder' (by (with_reducible repeat (first | apply Kd.N_alloc | apply Kd.N_drewN | apply Kd.N_drew)); exact HO232.out) (by first | exact Kd.N_base ho30 | exact Kd.S_base ho30 | exact Kd.R_base ho30 | exact Kd.Q_base ho30) hb); have n4_ := Aside0.mk (Kd.R_elder' (by (with_reducible repeat (first | apply Kd.R_alloc | apply Kd.R_drewN | apply Kd.R_drew)); exact HO235.out) (by first | exact Kd.N_base ho30 | exact Kd.S_base ho30 | exact Kd.R_base ho30 | exact Kd.Q_base ho30) hb); have n5_ := Aside0.mk (Kd.R_lower (Kd.R_new' ho30 (Kd.R_lt (by (with_reducible repeat (first | apply Kd.R_alloc | apply Kd.R_drewN | apply Kd.R_drew)); exact HO235.out))) (below_size (by repeat (first | (with_reducible first | exact HB.out | apply below_alloc | apply pw_below_drewN | apply below_drew1) | exact HB.out)))); have n6_ := Aside0.mk (below_step (by repeat (first | (with_reducible first | exact HB.out | apply below_alloc | apply pw_below_drewN | apply below_drew1) | exact HB.out)) hb); clear HO219; clear HO225; clear HO229; clear HO232; clear HO235; clear HB; have HO219 := n0_; have HO225 := n1_; have HO229 := n2_; have HO232 := n3_; have HO235 := n4_; have HO240 := n5_; have HB := n6_; clear n0_ n1_ n2_ n3_ n4_ n5_ n6_; clear hb ho30) | ((with_reducible refine gate_dst (N := 41) rfl ?_); (try (refine gate_guard (by rfl) ?_; dsimp only)); refine Kd.R_lit (Kd.int .i64) _ 3 ?hg (N := 41) ?hd (xs := ([(-1125899906842624), 5] : List Int)) (inner := [.int .i64 (-1125899906842624), .int .i64 5]) (ok := fun _ => True) (okp := fun _ => True) ?hr ?hp (fun _ hk => hk) trivial (Below.refl _ _) (Nat.le_refl _) (by simp) ?_; (case hd => rfl); (case hg => rfl); (case hr => first | (go_simp; done) | (go_simp; rfl)); (case hp => exact (Reps.one (show Kd.M (Kd.int .i64) _ _ _ (-1125899906842624) [.int .i64 (-1125899906842624)] from rfl) (Reps.one (show Kd.M (Kd.int .i64) _ _ _ 5 [.int .i64 5] from rfl) (Reps.none _ _)))); intro v242 w31 ho32 hb hg_ hnew_; clear hg_ hnew_; (first | rw [← Ny241.out] at ho32 | (simp only [Int.reduceToNat] at ho32; rw [← Ny241.out] at ho32)); have n0_ := Aside0.mk (Kd.N_elder' (by (with_reducible repeat (first | apply Kd.N_alloc | apply Kd.N_drewN | apply Kd.N_drew)); exact HO219.out) (by first | exact Kd.N_base ho32 | exact Kd.S_base ho32 | exact Kd.R_base ho32 | exact Kd.Q_base ho32) hb); have n1_ := Aside0.mk (Kd.N_elder' (by (with_reducible repeat (first | apply Kd.N_alloc | apply Kd.N_drewN | apply Kd.N_drew)); exact HO225.out) (by first | exact Kd.N_base ho32 | exact Kd.S_base ho32 | exact Kd.R_base ho32 | exact Kd.Q_base ho32) hb); have n2_ := Aside0.mk (Kd.N_elder' (by (with_reducible repeat (first | apply Kd.N_alloc | apply Kd.N_drewN | apply Kd.N_drew)); exact HO229.out) (by first | exact Kd.N_base ho32 | exact Kd.S_base ho32 | exact Kd.R_base ho32 | exact Kd.Q_base ho32) hb); have n3_ := Aside0.mk (Kd.N_elder' (by (with_reducible repeat (first | apply Kd.N_alloc | apply Kd.N_drewN | apply Kd.N_drew)); exact HO232.out) (by first | exact Kd.N_base ho32 | exact Kd.S_base ho32 | exact Kd.R_base ho32 | exact Kd.Q_base ho32) hb); have n4_ := Aside0.mk (Kd.R_elder' (by (with_reducible repeat (first | apply Kd.R_alloc | apply Kd.R_drewN | apply Kd.R_drew)); exact HO235.out) (by first | exact Kd.N_base ho32 | exact Kd.S_base ho32 | exact Kd.R_base ho32 | exact Kd.Q_base ho32) hb); have n5_ := Aside0.mk (Kd.R_elder' (by (with_reducible repeat (first | apply Kd.R_alloc | apply Kd.R_drewN | apply Kd.R_drew)); exact HO240.out) (by first | exact Kd.N_base ho32 | exact Kd.S_base ho32 | exact Kd.R_base ho32 | exact Kd.Q_base ho32) hb); have n6_ := Aside0.mk (Kd.R_lower (Kd.R_new' (Kd.R_new' ho32 (Kd.R_lt (by (with_reducible repeat (first | apply Kd.R_alloc | apply Kd.R_drewN | apply Kd.R_drew)); exact HO235.out))) (Kd.R_lt (by (with_reducible repeat (first | apply Kd.R_alloc | apply Kd.R_drewN | apply Kd.R_drew)); exact HO240.out))) (below_size (by repeat (first | (with_reducible first | exact HB.out | apply below_alloc | apply pw_below_drewN | apply below_drew1) | exact HB.out)))); have n7_ := Aside0.mk (below_step (by repeat (first | (with_reducible first | exact HB.out | apply below_alloc | apply pw_below_drewN | apply below_drew1) | exact HB.out)) hb); clear HO219; clear HO225; clear HO229; clear HO232; clear HO235; clear HO240; clear HB; have HO219 := n0_; have HO225 := n1_; have HO229 := n2_; have HO232 := n3_; have HO235 := n4_; have HO240 := n5_; have HO243 := n6_; have HB := n7_; clear n0_ n1_ n2_ n3_ n4_ n5_ n6_ n7_; clear hb ho32; obtain ⟨Ao33, co33, eo33⟩ := Kd.R_slice HO240.out; subst eo33; obtain ⟨Ao34, co34, eo34⟩ := Kd.R_slice HO243.out; subst eo34) | ((with_reducible refine gate_dst (N := 42) rfl ?_); (try (refine gate_guard (by rfl) ?_; dsimp only)); refine Kd.N_lit (Kd.slice 3 (Kd.int .i64)) _ 22 ?hg (N' := 42) ?hd (xs := ([y238, y241] : List (List Int))) (inner := [.slice Ao33 y238.length co33, .slice Ao34 y241.length co34]) (ok := (fun k_ => some k_ ≠ (.slice Ao18 t217.length co18 : Value).ownBlock ∧ some k_ ≠ (.slice Ao21 t223.length co21 : Value).ownBlock ∧ some k_ ≠ (v228 : Value).ownBlock ∧ some k_ ≠ (.slice Ao26 t230.length co26 : Value).ownBlock ∧ some k_ ≠ (.slice Ao27 y233.length co27 : Value).ownBlock)) (okp := (fun k_ => some k_ ≠ (.slice Ao18 t217.length co18 : Value).ownBlock ∧ some k_ ≠ (.slice Ao21 t223.length co21 : Value).ownBlock ∧ some k_ ≠ (v228 : Value).ownBlock ∧ some k_ ≠ (.slice Ao26 t230.length co26 : Value).ownBlock ∧ some k_ ≠ (.slice Ao27 y233.length co27 : Value).ownBlock)) ?hr ?hp (fun _ hk => hk) ((show ∀ k_, w31.heap.size ≤ k_ → (fun k_ => some k_ ≠ (.slice Ao18 t217.length co18 : Value).ownBlock ∧ some k_ ≠ (.slice Ao21 t223.length co21 : Value).ownBlock ∧ some k_ ≠ (v228 : Value).ownBlock ∧ some k_ ≠ (.slice Ao26 t230.length co26 : Value).ownBlock ∧ some k_ ≠ (.slice Ao27 y233.length co27 : Value).ownBlock) k_ from fun k_ hk => ⟨Kd.fresh' (Kd.N_lt (by (with_reducible repeat (first | apply Kd.N_alloc | apply Kd.N_drewN | apply Kd.N_drew)); exact HO219.out)) k_ hk, Kd.fresh' (Kd.N_lt (by (with_reducible repeat (first | apply Kd.N_alloc | apply Kd.N_drewN | apply Kd.N_drew)); exact HO225.out)) k_ hk, Kd.fresh' (Kd.N_lt (by (with_reducible repeat (first | apply Kd.N_alloc | apply Kd.N_drewN | apply Kd.N_drew)); exact HO229.out)) k_ hk, Kd.fresh' (Kd.N_lt (by (with_reducible repeat (first | apply Kd.N_alloc | apply Kd.N_drewN | apply Kd.N_drew)); exact HO232.out)) k_ hk, Kd.fresh' (Kd.R_lt (by (with_reducible repeat (first | apply Kd.R_alloc | apply Kd.R_drewN | apply Kd.R_drew)); exact HO235.out)) k_ hk⟩) _ (Nat.le_refl _)) (Below.refl _ _) (Nat.le_refl _) (by simp) ?_; (case hd => rfl); (case hg => rfl); (case hr => first | (go_simp; done) | (go_simp; rfl)); (case hp => exact (Reps.one (show Kd.FK (Kd.slice 3 (Kd.int .i64)) _ _ y238 [.slice Ao33 y238.length co33] from (Kd.FK_slice_mk (Kd.R_reads' (Kd.R_mono (ok' := (fun k_ => some k_ ≠ (.slice Ao18 t217.length co18 : Value).ownBlock ∧ some k_ ≠ (.slice Ao21 t223.length co21 : Value).ownBlock ∧ some k_ ≠ (v228 : Value).ownBlock ∧ some k_ ≠ (.slice Ao26 t230.length co26 : Value).ownBlock ∧ some k_ ≠ (.slice Ao27 y233.length co27 : Value).ownBlock)) (Kd.R_apart' (Kd.R_apart' (Kd.R_apart' (Kd.R_apart' (HO240.out) (Kd.N_typed HO219.out) (by decide)) (Kd.N_typed HO225.out) (by decide)) (Kd.N_typed HO229.out) (by decide)) (Kd.N_typed HO232.out) (by decide)) (fun k_ hk => ⟨hk.1.1.1.2, ⟨hk.1.1.2, ⟨hk.1.2, ⟨hk.2, hk.1.1.1.1.1.2⟩⟩⟩⟩))).2.1 (Kd.R_F (Kd.R_mono (ok' := (fun k_ => some k_ ≠ (.slice Ao18 t217.length co18 : Value).ownBlock ∧ some k_ ≠ (.slice Ao21 t223.length co21 : Value).ownBlock ∧ some k_ ≠ (v228 : Value).ownBlock ∧ some k_ ≠ (.slice Ao26 t230.length co26 : Value).ownBlock ∧ some k_ ≠ (.slice Ao27 y233.length co27 : Value).ownBlock)) (Kd.R_apart' (Kd.R_apart' (Kd.R_apart' (Kd.R_apart' (HO240.out) (Kd.N_typed HO219.out) (by decide)) (Kd.N_typed HO225.out) (by decide)) (Kd.N_typed HO229.out) (by decide)) (Kd.N_typed HO232.out) (by decide)) (fun k_ hk => ⟨hk.1.1.1.2, ⟨hk.1.1.2, ⟨hk.1.2, ⟨hk.2, hk.1.1.1.1.1.2⟩⟩⟩⟩))))) (Reps.one (show Kd.FK (Kd.slice 3 (Kd.int .i64)) _ _ y241 [.slice Ao34 y241.length co34] from (Kd.FK_slice_mk (Kd.R_reads' (Kd.R_mono (ok' := (fun k_ => some k_ ≠ (.slice Ao18 t217.length co18 : Value).ownBlock ∧ some k_ ≠ (.slice Ao21 t223.length co21 : Value).ownBlock ∧ some k_ ≠ (v228 : Value).ownBlock ∧ some k_ ≠ (.slice Ao26 t230.length co26 : Value).ownBlock ∧ some k_ ≠ (.slice Ao27 y233.length co27 : Value).ownBlock)) (Kd.R_apart' (Kd.R_apart' (Kd.R_apart' (Kd.R_apart' (HO243.out) (Kd.N_typed HO219.out) (by decide)) (Kd.N_typed HO225.out) (by decide)) (Kd.N_typed HO229.out) (by decide)) (Kd.N_typed HO232.out) (by decide)) (fun k_ hk => ⟨hk.1.1.1.2, ⟨hk.1.1.2, ⟨hk.1.2, ⟨hk.2, hk.1.1.1.1.1.2⟩⟩⟩⟩))).2.1 (Kd.R_F (Kd.R_mono (ok' := (fun k_ => some k_ ≠ (.slice Ao18 t217.length co18 : Value).ownBlock ∧ some k_ ≠ (.slice Ao21 t223.length co21 : Value).ownBlock ∧ some k_ ≠ (v228 : Value).ownBlock ∧ some k_ ≠ (.slice Ao26 t230.length co26 : Value).ownBlock ∧ some k_ ≠ (.slice Ao27 y233.length co27 : Value).ownBlock)) (Kd.R_apart' (Kd.R_apart' (Kd.R_apart' (Kd.R_apart' (HO243.out) (Kd.N_typed HO219.out) (by decide)) (Kd.N_typed HO225.out) (by decide)) (Kd.N_typed HO229.out) (by decide)) (Kd.N_typed HO232.out) (by decide)) (fun k_ hk => ⟨hk.1.1.1.2, ⟨hk.1.1.2, ⟨hk.1.2, ⟨hk.2, hk.1.1.1.1.1.2⟩⟩⟩⟩))))) (Reps.none _ _)))); intro v245 w35 ho36 hb hg_ hnew_; clear hg_ hnew_; (first | rw [← Ny244.out] at ho36 | (simp only [Int.reduceToNat] at ho36; rw [← Ny244.out] at ho36)); have n0_ := Aside0.mk (Kd.N_elder' (by (with_reducible repeat (first | apply Kd.N_alloc | apply Kd.N_drewN | apply Kd.N_drew)); exact HO219.out) (by first | exact Kd.N_base ho36 | exact Kd.S_base ho36 | exact Kd.R_base ho36 | exact Kd.Q_base ho36) hb); have n1_ := Aside0.mk (Kd.N_elder' (by (with_reducible repeat (first | apply Kd.N_alloc | apply Kd.N_drewN | apply Kd.N_drew)); exact HO225.out) (by first | exact Kd.N_base ho36 | exact Kd.S_base ho36 | exact Kd.R_base ho36 | exact Kd.Q_base ho36) hb); have n2_ := Aside0.mk (Kd.N_elder' (by (with_reducible repeat (first | apply Kd.N_alloc | apply Kd.N_drewN | apply Kd.N_drew)); exact HO229.out) (by first | exact Kd.N_base ho36 | exact Kd.S_base ho36 | exact Kd.R_base ho36 | exact Kd.Q_base ho36) hb); have n3_ := Aside0.mk (Kd.N_elder' (by (with_reducible repeat (first | apply Kd.N_alloc | apply Kd.N_drewN | apply Kd.N_drew)); exact HO232.out) (by first | exact Kd.N_base ho36 | exact Kd.S_base ho36 | exact Kd.R_base ho36 | exact Kd.Q_base ho36) hb); have n4_ := Aside0.mk (Kd.R_below (by (with_reducible repeat (first | apply Kd.R_alloc | apply Kd.R_drewN | apply Kd.R_drew)); exact HO235.out) hb); have n5_ := Aside0.mk (Kd.N_lower ho36 (below_size (by repeat (first | (with_reducible first | exact HB.out | apply below_alloc | apply pw_below_drewN | apply below_drew1) | exact HB.out)))); have n6_ := Aside0.mk (below_step (by repeat (first | (with_reducible first | exact HB.out | apply below_alloc | apply pw_below_drewN | apply below_drew1) | exact HB.out)) hb); clear HO219; clear HO225; clear HO229; clear HO232; clear HO235; clear HB; clear HO240; clear HO243; have HO219 := n0_; have HO225 := n1_; have HO229 := n2_; have HO232 := n3_; have HO235 := n4_; have HO246 := n5_; have HB := n6_; clear n0_ n1_ n2_ n3_ n4_ n5_ n6_; clear hb ho36; obtain ⟨Ao37, co37, eo37⟩ := Kd.N_slice HO229.out; subst eo37; obtain ⟨Ao38, co38, eo38⟩ := Kd.N_slice HO246.out; subst eo38) | (go_at_call 18; (with_reducible refine (railplankeep_SameLists_int.calls k _ _ t226 _ _ y244 true _ ?side1 ?side2 ?side3 ?side4 A11.out).mono ?_); (case side1 => repeat (first | exact (Kd.N_reads' HO229.out).2.2 | (with_reducible refine Kd.C_alloc ?_ _) | (with_reducible refine Kd.C_drewN ?_ _) | (with_reducible refine Kd.C_drew ?_))); (case side2 => exact (Kd.N_reads' HO229.out).2.1); (case side3 => repeat (first | exact (Kd.N_reads' HO246.out).2.2 | (with_reducible refine Kd.C_alloc ?_ _) | (with_reducible refine Kd.C_drewN ?_ _) | (with_reducible refine Kd.C_drew ?_))); (case side4 => exact (Kd.N_reads' HO246.out).2.1); rintro e w' ⟨rfl, ⟨nd, rfl⟩⟩) | (go_at_call 37; (with_reducible refine (railplanlaw33_example.calls  t248 _ A15.out).mono ?_); rintro e w39 ⟨v249, rfl, ho0, hb⟩; have n0_ := Aside0.mk (Kd.N_elder' (by (with_reducible repeat (first | apply Kd.N_alloc | apply Kd.N_drewN | apply Kd.N_drew)); exact HO219.out) (by first | exact Kd.N_base ho0 | exact Kd.S_base ho0 | exact Kd.R_base ho0 | exact Kd.Q_base ho0) hb); have n1_ := Aside0.mk (Kd.N_elder' (by (with_reducible repeat (first | apply Kd.N_alloc | apply Kd.N_drewN | apply Kd.N_drew)); exact HO225.out) (by first | exact Kd.N_base ho0 | exact Kd.S_base ho0 | exact Kd.R_base ho0 | exact Kd.Q_base ho0) hb); have n2_ := Aside0.mk (Kd.N_elder' (by (with_reducible repeat (first | apply Kd.N_alloc | apply Kd.N_drewN | apply Kd.N_drew)); exact HO229.out) (by first | exact Kd.N_base ho0 | exact Kd.S_base ho0 | exact Kd.R_base ho0 | exact Kd.Q_base ho0) hb); have n3_ := Aside0.mk (Kd.N_elder' (by (with_reducible repeat (first | apply Kd.N_alloc | apply Kd.N_drewN | apply Kd.N_drew)); exact HO232.out) (by first | exact Kd.N_base ho0 | exact Kd.S_base ho0 | exact Kd.R_base ho0 | exact Kd.Q_base ho0) hb); have n4_ := Aside0.mk (Kd.R_below (by (with_reducible repeat (first | apply Kd.R_alloc | apply Kd.R_drewN | apply Kd.R_drew)); exact HO235.out) hb); have n5_ := Aside0.mk (Kd.N_elder' (by (with_reducible repeat (first | apply Kd.N_alloc | apply Kd.N_drewN | apply Kd.N_drew)); exact HO246.out) (by first | exact Kd.N_base ho0 | exact Kd.S_base ho0 | exact Kd.R_base ho0 | exact Kd.Q_base ho0) hb); have n6_ := Aside0.mk (Kd.N_lower (Kd.N_mono (ok' := fun k_ => some k_ ≠ (.slice Ao18 t217.length co18 : Value).ownBlock ∧ some k_ ≠ (.slice Ao21 t223.length co21 : Value).ownBlock ∧ some k_ ≠ (.slice Ao37 t226.length co37 : Value).ownBlock ∧ some k_ ≠ (.slice Ao26 t230.length co26 : Value).ownBlock ∧ some k_ ≠ (.slice Ao27 y233.length co27 : Value).ownBlock ∧ some k_ ≠ (.slice Ao38 y244.length co38 : Value).ownBlock) ho0 (fun k_ hk_ => ⟨(Kd.fresh' (Kd.N_lt (by (with_reducible repeat (first | apply Kd.N_alloc | apply Kd.N_drewN | apply Kd.N_drew)); exact HO219.out)) k_ hk_), (Kd.fresh' (Kd.N_lt (by (with_reducible repeat (first | apply Kd.N_alloc | apply Kd.N_drewN | apply Kd.N_drew)); exact HO225.out)) k_ hk_), (Kd.fresh' (Kd.N_lt (by (with_reducible repeat (first | apply Kd.N_alloc | apply Kd.N_drewN | apply Kd.N_drew)); exact HO229.out)) k_ hk_), (Kd.fresh' (Kd.N_lt (by (with_reducible repeat (first | apply Kd.N_alloc | apply Kd.N_drewN | apply Kd.N_drew)); exact HO232.out)) k_ hk_), (Kd.fresh' (Kd.R_lt (by (with_reducible repeat (first | apply Kd.R_alloc | apply Kd.R_drewN | apply Kd.R_drew)); exact HO235.out)) k_ hk_), (Kd.fresh' (Kd.N_lt (by (with_reducible repeat (first | apply Kd.N_alloc | apply Kd.N_drewN | apply Kd.N_drew)); exact HO246.out)) k_ hk_)⟩)) (below_size (by repeat (first | (with_reducible first | exact HB.out | apply below_alloc | apply pw_below_drewN | apply below_drew1) | exact HB.out)))); have n7_ := Aside0.mk (below_step (by repeat (first | (with_reducible first | exact HB.out | apply below_alloc | apply pw_below_drewN | apply below_drew1) | exact HB.out)) hb); clear HO219; clear HO225; clear HO229; clear HO232; clear HO235; clear HO246; clear HB; have HO219 := n0_; have HO225 := n1_; have HO229 := n2_; have HO232 := n3_; have HO235 := n4_; have HO246 := n5_; have HO250 := n6_; have HB := n7_; clear n0_ n1_ n2_ n3_ n4_ n5_ n6_ n7_; (try clear hb); (try clear hb2); (try clear hk); (try clear hi); (try clear ho0); obtain ⟨Ao40, co40, eo40⟩ := Kd.N_slice HO250.out; subst eo40) | (go_at_call 30; (with_reducible refine (maxplus_Check.calls k _ _ t248 t251 _ ?side1 ?side2 A16.out).mono ?_); (case side1 => repeat (first | exact (Kd.N_reads' HO250.out).2.2 | (with_reducible refine Kd.C_alloc ?_ _) | (with_reducible refine Kd.C_drewN ?_ _) | (with_reducible refine Kd.C_drew ?_))); (case side2 => exact (Kd.N_reads' HO250.out).2.1); rintro e w' ⟨rfl, ⟨nd, rfl⟩⟩))
                go_ret
                exact ⟨by first | rfl | (simp [errW_none, errW_some] <;> rfl) | (simp [*, errW_none, errW_some] <;> rfl), by repeat (first | (with_reducible first | exact HB.out | apply below_alloc | apply pw_below_drewN | apply below_drew1) | exact HB.out)⟩
              · rw [if_neg c14] at H
                have c14b0 : (t236 == 1) = false := beq_eq_false_iff_ne.mpr c14
                have c14b1 : (t236 != 1) = true := bne_iff_ne.mpr c14
                exact absurd (Option.some.inj H) (by rw [hT.out]; decide)
            · replace c13 := Bool.eq_false_iff.mpr c13
              subst c13
              have H1 : (some false) = some r := by rw [if_neg (show ¬ (false = true) by decide)] at H; exact H
              clear H
              have H := H1
              clear H1
              exact absurd (Option.some.inj H) (by rw [hT.out]; decide)
          · replace c12 := Bool.eq_false_iff.mpr c12
            subst c12
            have H1 : (some false) = some r := by rw [if_neg (show ¬ (false = true) by decide)] at H; exact H
            clear H
            have H := H1
            clear H1
            exact absurd (Option.some.inj H) (by rw [hT.out]; decide)
        · rw [if_neg c10] at H
          have c10b0 : (t227 == 0) = false := beq_eq_false_iff_ne.mpr c10
          have c10b1 : (t227 != 0) = true := bne_iff_ne.mpr c10
          exact absurd (Option.some.inj H) (by rw [hT.out]; decide)
      · rw [if_neg c9] at H
        have c9b0 : (t221 == 2) = false := beq_eq_false_iff_ne.mpr c9
        have c9b1 : (t221 != 2) = true := bne_iff_ne.mpr c9
        exact absurd (Option.some.inj H) (by rw [hT.out]; decide)
    · rw [if_neg c8] at H
      have c8b0 : (t220 == 5) = false := beq_eq_false_iff_ne.mpr c8
      have c8b1 : (t220 != 5) = true := bne_iff_ne.mpr c8
      exact absurd (Option.some.inj H) (by rw [hT.out]; decide)
  · replace c7 := Bool.eq_false_iff.mpr c7
    subst c7
    have H1 : (some false) = some r := by rw [if_neg (show ¬ (false = true) by decide)] at H; exact H
    clear H
    have H := H1
    clear H1
    exact absurd (Option.some.inj H) (by rw [hT.out]; decide)

/-! ### railplanlaw33_walk: function 19 -/
mutual
def railplanlaw33_walk.l0 : Nat → List (List Int) → Int → Int → Int → Int → List Bool → Int → Int → Int → Int → Option (Int × Int × List Bool)
  | 0, _, _, _, _, _, _, _, _, _, _ => none
  | k + 1, x0, x1, x2, x3, x4, x5, x6, x7, x21, x22 => if x22 < x21 then (if 0 ≤ x22 then (if x22 < (x0.length : Int) then (if 0 ≤ x2 then (if x2 < ((rd_L1 x0 x22).length : Int) then (if (rd (rd_L1 x0 x22) x2) = (-1125899906842624) then (railplanlaw33_walk.j1 k x0 x1 x2 x3 x4 x5 x6 x7 x22 (rd (rd_L1 x0 x22) x2) x21 x22 true) else (if x22 < x1 then (railplanlaw33_walk.j1 k x0 x1 x2 x3 x4 x5 x6 x7 x22 (rd (rd_L1 x0 x22) x2) x21 x22 true) else (if x22 < (x5.length : Int) then (if rdOf false x5 x22 = true then (railplanlaw33_walk.j1 k x0 x1 x2 x3 x4 x5 x6 x7 x22 (rd (rd_L1 x0 x22) x2) x21 x22 (x22 != x1)) else (railplanlaw33_walk.j1 k x0 x1 x2 x3 x4 x5 x6 x7 x22 (rd (rd_L1 x0 x22) x2) x21 x22 false)) else (none)))) else (none)) else (none)) else (none)) else (none)) else (some (x6, x7, x5))
def railplanlaw33_walk.j1 : Nat → List (List Int) → Int → Int → Int → Int → List Bool → Int → Int → Int → Int → Int → Int → Bool → Option (Int × Int × List Bool)
  | 0, _, _, _, _, _, _, _, _, _, _, _, _, _ => none
  | k + 1, x0, x1, x2, x3, x4, x5, x6, x7, x18, x19, x21, x22, x49 => if x49 = true then (railplanlaw33_walk.l0 k x0 x1 x2 x3 x4 x5 x6 x7 x21 (wrap64 (x22 + 1))) else (if x18 = x1 then (if x7 = 0 then (railplanlaw33_walk.l0 k x0 x1 x2 x3 x4 x5 (wrap64 (x3 + x19)) (wrap64 (x4 + 1)) x21 (wrap64 (x22 + 1))) else (if (wrap64 ((wrap64 (x3 + x19)) * x7)) > (wrap64 (x6 * (wrap64 (x4 + 1)))) then (railplanlaw33_walk.l0 k x0 x1 x2 x3 x4 x5 (wrap64 (x3 + x19)) (wrap64 (x4 + 1)) x21 (wrap64 (x22 + 1))) else (railplanlaw33_walk.l0 k x0 x1 x2 x3 x4 x5 x6 x7 x21 (wrap64 (x22 + 1))))) else (if 0 ≤ x18 then (if x18 < (x5.length : Int) then ((railplanlaw33_walk.f k x0 x1 x18 (wrap64 (x3 + x19)) (wrap64 (x4 + 1)) (x5.set (x18 : Int).toNat true) x6 x7).bind fun bt256 => (railplanlaw33_walk.l0 k x0 x1 x2 x3 x4 (bt256.2.2.set (x18 : Int).toNat false) bt256.1 bt256.2.1 x21 (wrap64 (x22 + 1)))) else (none)) else (none)))
def railplanlaw33_walk.f : Nat → List (List Int) → Int → Int → Int → Int → List Bool → Int → Int → Option (Int × Int × List Bool)
  | 0, _, _, _, _, _, _, _, _ => none
  | k + 1, l0, a1, a2, a3, a4, l5, a6, a7 => railplanlaw33_walk.l0 k l0 a1 a2 a3 a4 l5 a6 a7 (l0.length : Int) 0
end
theorem railplanlaw33_walk.mono_l : ∀ k, (∀ y0 y1 y2 y3 y4 y5 y6 y7, LeO (railplanlaw33_walk.f k y0 y1 y2 y3 y4 y5 y6 y7) (railplanlaw33_walk.f (k + 1) y0 y1 y2 y3 y4 y5 y6 y7)) ∧ (∀ y0 y1 y2 y3 y4 y5 y6 y7 y8 y9, LeO (railplanlaw33_walk.l0 k y0 y1 y2 y3 y4 y5 y6 y7 y8 y9) (railplanlaw33_walk.l0 (k + 1) y0 y1 y2 y3 y4 y5 y6 y7 y8 y9)) ∧ (∀ y0 y1 y2 y3 y4 y5 y6 y7 y8 y9 y10 y11 y12, LeO (railplanlaw33_walk.j1 k y0 y1 y2 y3 y4 y5 y6 y7 y8 y9 y10 y11 y12) (railplanlaw33_walk.j1 (k + 1) y0 y1 y2 y3 y4 y5 y6 y7 y8 y9 y10 y11 y12))
  | 0 => ⟨fun _ _ _ _ _ _ _ _ r h => by simp [railplanlaw33_walk.f] at h, fun _ _ _ _ _ _ _ _ _ _ r h => by simp [railplanlaw33_walk.l0] at h, fun _ _ _ _ _ _ _ _ _ _ _ _ _ r h => by simp [railplanlaw33_walk.j1] at h⟩
  | k + 1 => by
    obtain ⟨ih0, ih1, ih2⟩ := railplanlaw33_walk.mono_l k
    refine ⟨?_, ?_, ?_⟩
    · intro y0 y1 y2 y3 y4 y5 y6 y7
      unfold railplanlaw33_walk.f
      repeat' first
      | (with_reducible exact ih0 _ _ _ _ _ _ _ _)
      | (with_reducible exact ih1 _ _ _ _ _ _ _ _ _ _)
      | (with_reducible exact ih2 _ _ _ _ _ _ _ _ _ _ _ _ _)
      | (with_reducible exact LeO.refl _)
      | (with_reducible exact LeO.none _)
      | (with_reducible refine LeO.ite ?_ ?_)
      | (with_reducible refine LeO.bind ?_ (fun _ => ?_))
      | exact ih0 _ _ _ _ _ _ _ _
      | exact ih1 _ _ _ _ _ _ _ _ _ _
      | exact ih2 _ _ _ _ _ _ _ _ _ _ _ _ _
      | exact LeO.none _
      | refine LeO.ite ?_ ?_
      | refine LeO.bind ?_ (fun _ => ?_)
    · intro y0 y1 y2 y3 y4 y5 y6 y7 y8 y9
      unfold railplanlaw33_walk.l0
      repeat' first
      | (with_reducible exact ih0 _ _ _ _ _ _ _ _)
      | (with_reducible exact ih1 _ _ _ _ _ _ _ _ _ _)
      | (with_reducible exact ih2 _ _ _ _ _ _ _ _ _ _ _ _ _)
      | (with_reducible exact LeO.refl _)
      | (with_reducible exact LeO.none _)
      | (with_reducible refine LeO.ite ?_ ?_)
      | (with_reducible refine LeO.bind ?_ (fun _ => ?_))
      | exact ih0 _ _ _ _ _ _ _ _
      | exact ih1 _ _ _ _ _ _ _ _ _ _
      | exact ih2 _ _ _ _ _ _ _ _ _ _ _ _ _
      | exact LeO.none _
      | refine LeO.ite ?_ ?_
      | refine LeO.bind ?_ (fun _ => ?_)
    · intro y0 y1 y2 y3 y4 y5 y6 y7 y8 y9 y10 y11 y12
      unfold railplanlaw33_walk.j1
      repeat' first
      | (with_reducible exact ih0 _ _ _ _ _ _ _ _)
      | (with_reducible exact ih1 _ _ _ _ _ _ _ _ _ _)
      | (with_reducible exact ih2 _ _ _ _ _ _ _ _ _ _ _ _ _)
      | (with_reducible exact LeO.refl _)
      | (with_reducible exact LeO.none _)
      | (with_reducible refine LeO.ite ?_ ?_)
      | (with_reducible refine LeO.bind ?_ (fun _ => ?_))
      | exact ih0 _ _ _ _ _ _ _ _
      | exact ih1 _ _ _ _ _ _ _ _ _ _
      | exact ih2 _ _ _ _ _ _ _ _ _ _ _ _ _
      | exact LeO.none _
      | refine LeO.ite ?_ ?_
      | refine LeO.bind ?_ (fun _ => ?_)
theorem railplanlaw33_walk.mono : ∀ a0 a1 a2 a3 a4 a5 a6 a7 k, LeO (railplanlaw33_walk.f k a0 a1 a2 a3 a4 a5 a6 a7) (railplanlaw33_walk.f (k + 1) a0 a1 a2 a3 a4 a5 a6 a7) := by
  intro a0 a1 a2 a3 a4 a5 a6 a7 k
  obtain ⟨ih0, ih1, ih2⟩ := railplanlaw33_walk.mono_l k
  exact ih0 a0 a1 a2 a3 a4 a5 a6 a7
set_option maxHeartbeats 8000000 in
set_option maxRecDepth 100000 in
theorem railplanlaw33_walk.calls (k : Nat) : ∀ (A0 : Option Addr) (c0 : Nat) (l0 : List (List Int)) (a1 : Int) (a2 : Int) (a3 : Int) (a4 : Int) (P5_ : Nat → Prop) (u9000_ : Value) (l5 : List Bool) (a6 : Int) (a7 : Int) (r1 : Int) (r2 : Int) (r3 : List Bool) (w0 w : World) (hB : Below w0.heap.size w0 w) (hr0 : ∀ W_, Kept w W_ (fun k_ => P5_ k_) → Kd.C (Kd.slice 3 (Kd.int .i64)) W_ A0 l0.length l0) (hc0 : l0.length ≤ c0) (ho5 : Kd.R Kd.bool 4 w w0.heap.size P5_ u9000_ l5) (h : railplanlaw33_walk.f k l0 a1 a2 a3 a4 l5 a6 a7 = some (r1, r2, r3)),
    Calls Try.prog 19 #[.slice A0 l0.length c0, .int .i64 a1, .int .i64 a2, .int .i64 a3, .int .i64 a4, u9000_, .int .i64 a6, .int .i64 a7] w fun e w' => e = .returned (.tuple #[.int .i64 r1, .int .i64 r2]) ∧ Kd.R Kd.bool 4 w' w0.heap.size (fun k_ => (P5_ k_ ∨ w.heap.size ≤ k_)) u9000_ r3 ∧ Below w0.heap.size w0 w' ∧ Kept w w' (fun k_ => P5_ k_) := by
  induction k using Nat.strongRecOn with
  | _ k ih =>
  intro A0 c0 l0 a1 a2 a3 a4 P5_ u9000_ l5 a6 a7 r1 r2 r3 w0 w hB hr0 hc0 ho5 h
  cases k with
  | zero => exact absurd h (by simp [railplanlaw33_walk.f])
  | succ k =>
  simp only [railplanlaw33_walk.f] at h
  have HR0 := Aside0.mk hr0
  have HC0 := Aside0.mk hc0
  clear hr0 hc0
  have HO5 := Aside0.mk (show Kd.R Kd.bool 4 w w0.heap.size (fun k_ => (P5_ k_ ∨ w.heap.size ≤ k_)) u9000_ l5 from Kd.R_mono ho5 (fun k_ hk => (.inl hk)))
  have HK := Aside0.mk (Kept.refl w (fun k_ => P5_ k_))
  have HW0 := Aside0.mk hB.size
  have HB := Aside0.mk hB
  clear hB
  have H : (railplanlaw33_walk.l0 k l0 a1 a2 a3 a4 l5 a6 a7 (l0.length : Int) 0) = some (r1, r2, r3) := h
  clear h
  have H' := Aside0.mk H
  clear H
  go_enter Try.func19, Try.ntmps19
  go_wp2
  go_loopg [6, 7, 22] k (fun kq v6 v7 v22 w' => ∃ (x5_1 : List Bool) (x6_1 : Int) (x7_1 : Int) (x22_1 : Int), v6 = .int .i64 x6_1 ∧ v7 = .int .i64 x7_1 ∧ v22 = .int .i64 x22_1 ∧ Aside0 (railplanlaw33_walk.l0 kq l0 a1 a2 a3 a4 x5_1 x6_1 x7_1 (l0.length : Int) x22_1 = some (r1, r2, r3)) ∧ Aside0 (kq ≤ k) ∧ Aside0 (Kd.R Kd.bool 4 w' w0.heap.size (fun k_ => (P5_ k_ ∨ w.heap.size ≤ k_)) u9000_ x5_1) ∧ Aside0 (Kept w w' (fun k_ => P5_ k_)) ∧ Aside0 (Below w0.heap.size w0 w'))
  case atStart => exact ⟨(l5), (a6), (a7), (0), (by first | rfl | (simp; done) | (simp [*]; done)), (by first | rfl | (simp; done) | (simp [*]; done)), (by first | rfl | (simp; done) | (simp [*]; done)), H', ⟨Nat.le_refl _⟩, ⟨by (with_reducible repeat (first | apply Kd.R_alloc | apply Kd.R_drewN | apply Kd.R_drew)); exact HO5.out⟩, ⟨by repeat (first | (with_reducible first | exact HK.out | apply Kept.alloc | apply Kept.drewN | apply Kept.drew) | exact HK.out)⟩, ⟨by repeat (first | (with_reducible first | exact HB.out | apply below_alloc | apply pw_below_drewN | apply below_drew1) | exact HB.out)⟩⟩
  case round =>
    clear H'
    try clear c1
    try clear p2
    obtain ⟨x5_1, x6_1, x7_1, x22_1, rfl, rfl, rfl, HA, HK1, HO_5, HK, HB⟩ := hrel
    cases gk with
    | zero => exact absurd HA.out (by simp [railplanlaw33_walk.l0])
    | succ k1 =>
      have H := HA.out
      clear HA
      simp only [railplanlaw33_walk.l0] at H
      by_cases c9 : x22_1 < (l0.length : Int)
      · rw [if_pos c9] at H
        have c9b0 : decide (x22_1 < (l0.length : Int)) = true := decide_eq_true c9
        clear c9
        by_cases c10 : 0 ≤ x22_1
        · rw [if_pos c10] at H
          have c10b0 : decide (0 ≤ x22_1) = true := decide_eq_true c10
          clear c10
          by_cases c11 : x22_1 < (l0.length : Int)
          · rw [if_pos c11] at H
            have c11b0 : decide (x22_1 < (l0.length : Int)) = true := decide_eq_true c11
            clear c11
            by_cases c12 : 0 ≤ a2
            · rw [if_pos c12] at H
              have c12b0 : decide (0 ≤ a2) = true := decide_eq_true c12
              clear c12
              by_cases c13 : a2 < ((rd_L1 l0 x22_1).length : Int)
              · rw [if_pos c13] at H
                have c13b0 : decide (a2 < ((rd_L1 l0 x22_1).length : Int)) = true := decide_eq_true c13
                clear c13
                have HC14 := Aside0.mk H
                clear H
                have p252 : 0 ≤ (x22_1 : Int) := of_decide_eq_true (by first | (with_reducible assumption) | assumption)
                have q252 : x22_1 < (l0.length : Int) := of_decide_eq_true (by first | (with_reducible assumption) | assumption)
                obtain ⟨ad252, A252_0, c252_0, e252, hx252_0, hl252_0, hi252_0⟩ := at_L1 (Kd.C_kept_now HR0.out HK.out) x22_1 p252 q252
                cases e252
                have HR252_0 := Aside0.mk hi252_0
                have HC252_0 := Aside0.mk hl252_0
                clear hi252_0 hl252_0
                replace p252 := eq_true p252
                replace q252 := eq_true q252
                have p253 : 0 ≤ (a2 : Int) := of_decide_eq_true (by first | (with_reducible assumption) | assumption)
                have q253 : a2 < ((rd_L1 l0 x22_1).length : Int) := of_decide_eq_true (by first | (with_reducible assumption) | assumption)
                obtain ⟨ad253, e253, hx253_0⟩ := Kd.at_int (by repeat (first | (with_reducible exact HR252_0.out) | (with_reducible refine Kd.C_alloc ?_ _) | (with_reducible refine Kd.C_drewN ?_ _) | (with_reducible refine Kd.C_drew ?_) | exact HR252_0.out)) a2 p253 q253
                cases e253
                replace p253 := eq_true p253
                replace q253 := eq_true q253
                go_upto_region 5 with (fail)
                go_cut [49] (fun v49 wc => ∃ (kq : Nat) (x49_13 : Bool), v49 = .bool x49_13 ∧ Aside0 (railplanlaw33_walk.j1 kq l0 a1 a2 a3 a4 x5_1 x6_1 x7_1 x22_1 (rd (rd_L1 l0 x22_1) a2) (l0.length : Int) x22_1 x49_13 = some (r1, r2, r3)) ∧ Aside0 (kq ≤ k1) ∧ Aside0 (Kd.R Kd.bool 4 wc w0.heap.size (fun k_ => (P5_ k_ ∨ w.heap.size ≤ k_)) u9000_ x5_1) ∧ Aside0 (Kd.C (Kd.int .i64) wc (some ad253) (rd_L1 l0 x22_1).length (rd_L1 l0 x22_1)) ∧ Aside0 (Kept w wc (fun k_ => P5_ k_)) ∧ Aside0 (Below w0.heap.size w0 wc))
                case first =>
                  have H := HC14.out
                  clear HC14
                  by_cases c15 : (rd (rd_L1 l0 x22_1) a2) = (-1125899906842624)
                  · rw [if_pos c15] at H
                    have c15b0 : ((rd (rd_L1 l0 x22_1) a2) == (-1125899906842624)) = true := beq_iff_eq.mpr c15
                    have c15b1 : ((rd (rd_L1 l0 x22_1) a2) != (-1125899906842624)) = false := bne_eq_false_iff_eq.mpr c15
                    clear c15
                    (first | rw [c15b0] | (simp only [i64_w, i32_w]; rw [c15b0]) | skip)
                    have H' := Aside0.mk H
                    clear H
                    go_wp2
                    go_meet
                    case rel => exact ⟨_, (true), (by first | rfl | (simp; done) | (simp [*]; done)), H', ⟨by have := HK1.out; first | omega | exact Nat.le_refl _⟩, ⟨by (with_reducible repeat (first | apply Kd.R_alloc | apply Kd.R_drewN | apply Kd.R_drew)); exact HO_5.out⟩, ⟨by repeat (first | (with_reducible exact HR252_0.out) | (with_reducible refine Kd.C_alloc ?_ _) | (with_reducible refine Kd.C_drewN ?_ _) | (with_reducible refine Kd.C_drew ?_) | exact HR252_0.out)⟩, ⟨by repeat (first | (with_reducible first | exact HK.out | apply Kept.alloc | apply Kept.drewN | apply Kept.drew) | exact HK.out)⟩, ⟨by repeat (first | (with_reducible first | exact HB.out | apply below_alloc | apply pw_below_drewN | apply below_drew1) | exact HB.out)⟩⟩
                  · rw [if_neg c15] at H
                    have c15b0 : ((rd (rd_L1 l0 x22_1) a2) == (-1125899906842624)) = false := beq_eq_false_iff_ne.mpr c15
                    have c15b1 : ((rd (rd_L1 l0 x22_1) a2) != (-1125899906842624)) = true := bne_iff_ne.mpr c15
                    (first | rw [c15b0] | (simp only [i64_w, i32_w]; rw [c15b0]) | skip)
                    by_cases c16 : x22_1 < a1
                    · rw [if_pos c16] at H
                      have c16b0 : decide (x22_1 < a1) = true := decide_eq_true c16
                      clear c16
                      have H' := Aside0.mk H
                      clear H
                      go_wp2
                      go_meet
                      case rel => exact ⟨_, (true), (by first | rfl | (simp; done) | (simp [*]; done)), H', ⟨by have := HK1.out; first | omega | exact Nat.le_refl _⟩, ⟨by (with_reducible repeat (first | apply Kd.R_alloc | apply Kd.R_drewN | apply Kd.R_drew)); exact HO_5.out⟩, ⟨by repeat (first | (with_reducible exact HR252_0.out) | (with_reducible refine Kd.C_alloc ?_ _) | (with_reducible refine Kd.C_drewN ?_ _) | (with_reducible refine Kd.C_drew ?_) | exact HR252_0.out)⟩, ⟨by repeat (first | (with_reducible first | exact HK.out | apply Kept.alloc | apply Kept.drewN | apply Kept.drew) | exact HK.out)⟩, ⟨by repeat (first | (with_reducible first | exact HB.out | apply below_alloc | apply pw_below_drewN | apply below_drew1) | exact HB.out)⟩⟩
                    · rw [if_neg c16] at H
                      have c16b0 : decide (x22_1 < a1) = false := decide_eq_false c16
                      clear c16
                      by_cases c17 : x22_1 < (x5_1.length : Int)
                      · rw [if_pos c17] at H
                        have c17b0 : decide (x22_1 < (x5_1.length : Int)) = true := decide_eq_true c17
                        clear c17
                        obtain ⟨bq18, hbq18⟩ : ∃ b_ : Bool, b_ = (rdOf false x5_1 x22_1) := ⟨_, rfl⟩
                        replace H : (if bq18 = true then (railplanlaw33_walk.j1 k1 l0 a1 a2 a3 a4 x5_1 x6_1 x7_1 x22_1 (rd (rd_L1 l0 x22_1) a2) (l0.length : Int) x22_1 (x22_1 != a1)) else (railplanlaw33_walk.j1 k1 l0 a1 a2 a3 a4 x5_1 x6_1 x7_1 x22_1 (rd (rd_L1 l0 x22_1) a2) (l0.length : Int) x22_1 false)) = some (r1, r2, r3) := by rw [← hbq18] at H; exact H
                        have Nbq18 := Aside0.mk hbq18
                        clear hbq18
                        by_cases c19 : bq18 = true
                        · subst c19
                          have H1 : (railplanlaw33_walk.j1 k1 l0 a1 a2 a3 a4 x5_1 x6_1 x7_1 x22_1 (rd (rd_L1 l0 x22_1) a2) (l0.length : Int) x22_1 (x22_1 != a1)) = some (r1, r2, r3) := by rw [if_pos rfl] at H; exact H
                          clear H
                          have H := H1
                          clear H1
                          have H' := Aside0.mk H
                          clear H
                          obtain ⟨Ao20, co20, eo20⟩ := Kd.R_slice HO_5.out
                          subst eo20
                          have p254 : 0 ≤ (x22_1 : Int) := of_decide_eq_true (by first | (with_reducible assumption) | assumption)
                          have q254 : x22_1 < (x5_1.length : Int) := of_decide_eq_true (by first | (with_reducible assumption) | assumption)
                          obtain ⟨ad254, e254, hx254_0⟩ := Kd.at_bool (Kd.R_reads' HO_5.out).2.2 x22_1 p254 q254
                          (try rw [← Nbq18.out] at hx254_0)
                          cases e254
                          replace p254 := eq_true p254
                          replace q254 := eq_true q254
                          go_wp2
                          go_meet
                          case rel => exact ⟨_, ((x22_1 != a1)), (by first | rfl | (simp; done) | (simp [*]; done)), H', ⟨by have := HK1.out; first | omega | exact Nat.le_refl _⟩, ⟨by (with_reducible repeat (first | apply Kd.R_alloc | apply Kd.R_drewN | apply Kd.R_drew)); exact HO_5.out⟩, ⟨by repeat (first | (with_reducible exact HR252_0.out) | (with_reducible refine Kd.C_alloc ?_ _) | (with_reducible refine Kd.C_drewN ?_ _) | (with_reducible refine Kd.C_drew ?_) | exact HR252_0.out)⟩, ⟨by repeat (first | (with_reducible first | exact HK.out | apply Kept.alloc | apply Kept.drewN | apply Kept.drew) | exact HK.out)⟩, ⟨by repeat (first | (with_reducible first | exact HB.out | apply below_alloc | apply pw_below_drewN | apply below_drew1) | exact HB.out)⟩⟩
                        · replace c19 := Bool.eq_false_iff.mpr c19
                          subst c19
                          have H1 : (railplanlaw33_walk.j1 k1 l0 a1 a2 a3 a4 x5_1 x6_1 x7_1 x22_1 (rd (rd_L1 l0 x22_1) a2) (l0.length : Int) x22_1 false) = some (r1, r2, r3) := by rw [if_neg (show ¬ (false = true) by decide)] at H; exact H
                          clear H
                          have H := H1
                          clear H1
                          have H' := Aside0.mk H
                          clear H
                          obtain ⟨Ao21, co21, eo21⟩ := Kd.R_slice HO_5.out
                          subst eo21
                          have p254 : 0 ≤ (x22_1 : Int) := of_decide_eq_true (by first | (with_reducible assumption) | assumption)
                          have q254 : x22_1 < (x5_1.length : Int) := of_decide_eq_true (by first | (with_reducible assumption) | assumption)
                          obtain ⟨ad254, e254, hx254_0⟩ := Kd.at_bool (Kd.R_reads' HO_5.out).2.2 x22_1 p254 q254
                          (try rw [← Nbq18.out] at hx254_0)
                          cases e254
                          replace p254 := eq_true p254
                          replace q254 := eq_true q254
                          go_wp2
                          go_meet
                          case rel => exact ⟨_, (false), (by first | rfl | (simp; done) | (simp [*]; done)), H', ⟨by have := HK1.out; first | omega | exact Nat.le_refl _⟩, ⟨by (with_reducible repeat (first | apply Kd.R_alloc | apply Kd.R_drewN | apply Kd.R_drew)); exact HO_5.out⟩, ⟨by repeat (first | (with_reducible exact HR252_0.out) | (with_reducible refine Kd.C_alloc ?_ _) | (with_reducible refine Kd.C_drewN ?_ _) | (with_reducible refine Kd.C_drew ?_) | exact HR252_0.out)⟩, ⟨by repeat (first | (with_reducible first | exact HK.out | apply Kept.alloc | apply Kept.drewN | apply Kept.drew) | exact HK.out)⟩, ⟨by repeat (first | (with_reducible first | exact HB.out | apply below_alloc | apply pw_below_drewN | apply below_drew1) | exact HB.out)⟩⟩
                      · rw [if_neg c17] at H
                        exact absurd H (by simp)
                case rest =>
                  clear HC14
                  try clear c1
                  try clear q1
                  try clear c2
                  try clear p2
                  try clear q2
                  try clear hx2
                  try clear c9
                  try clear c9b0
                  try clear c10
                  try clear c10b0
                  try clear c11
                  try clear c11b0
                  try clear c12
                  try clear c12b0
                  try clear c13
                  try clear c13b0
                  try clear c15
                  try clear c15b0
                  try clear c15b1
                  try clear c16
                  try clear c16b0
                  try clear c17
                  try clear c17b0
                  try clear q18
                  try clear c19
                  try clear hx252_0
                  try clear hx253_0
                  try clear hx254_0
                  try clear p2
                  try clear p252
                  try clear p253
                  try clear p254
                  try clear q252
                  try clear q253
                  try clear q254
                  obtain ⟨kq, x49_13, rfl, HA, HJ13, HO_5, HR252_0, HK, HB⟩ := hcut
                  cases kq with
                  | zero => exact absurd HA.out (by simp [railplanlaw33_walk.j1])
                  | succ kj13 =>
                    have H := HA.out
                    clear HA
                    simp only [railplanlaw33_walk.j1] at H
                    by_cases c22 : x49_13 = true
                    · subst c22
                      have H1 : (railplanlaw33_walk.l0 kj13 l0 a1 a2 a3 a4 x5_1 x6_1 x7_1 (l0.length : Int) (wrap64 (x22_1 + 1))) = some (r1, r2, r3) := by rw [if_pos rfl] at H; exact H
                      clear H
                      have H := H1
                      clear H1
                      have H' := Aside0.mk H
                      clear H
                      go_wp2
                      go_roundg kj13
                      case measure => have := HK1.out; have := HJ13.out; omega
                      case rel => exact ⟨(x5_1), (x6_1), (x7_1), (wrap64 (x22_1 + 1)), (by first | rfl | (simp; done) | (simp [*]; done)), (by first | rfl | (simp; done) | (simp [*]; done)), (by first | rfl | (simp; done) | (simp [*]; done)), H', ⟨by have := HK1.out; have := HJ13.out; omega⟩, ⟨by (with_reducible repeat (first | apply Kd.R_alloc | apply Kd.R_drewN | apply Kd.R_drew)); exact HO_5.out⟩, ⟨by repeat (first | (with_reducible first | exact HK.out | apply Kept.alloc | apply Kept.drewN | apply Kept.drew) | exact HK.out)⟩, ⟨by repeat (first | (with_reducible first | exact HB.out | apply below_alloc | apply pw_below_drewN | apply below_drew1) | exact HB.out)⟩⟩
                    · replace c22 := Bool.eq_false_iff.mpr c22
                      subst c22
                      have H1 : (if x22_1 = a1 then (if x7_1 = 0 then (railplanlaw33_walk.l0 kj13 l0 a1 a2 a3 a4 x5_1 (wrap64 (a3 + (rd (rd_L1 l0 x22_1) a2))) (wrap64 (a4 + 1)) (l0.length : Int) (wrap64 (x22_1 + 1))) else (if (wrap64 ((wrap64 (a3 + (rd (rd_L1 l0 x22_1) a2))) * x7_1)) > (wrap64 (x6_1 * (wrap64 (a4 + 1)))) then (railplanlaw33_walk.l0 kj13 l0 a1 a2 a3 a4 x5_1 (wrap64 (a3 + (rd (rd_L1 l0 x22_1) a2))) (wrap64 (a4 + 1)) (l0.length : Int) (wrap64 (x22_1 + 1))) else (railplanlaw33_walk.l0 kj13 l0 a1 a2 a3 a4 x5_1 x6_1 x7_1 (l0.length : Int) (wrap64 (x22_1 + 1))))) else (if 0 ≤ x22_1 then (if x22_1 < (x5_1.length : Int) then ((railplanlaw33_walk.f kj13 l0 a1 x22_1 (wrap64 (a3 + (rd (rd_L1 l0 x22_1) a2))) (wrap64 (a4 + 1)) (x5_1.set (x22_1 : Int).toNat true) x6_1 x7_1).bind fun bt256 => (railplanlaw33_walk.l0 kj13 l0 a1 a2 a3 a4 (bt256.2.2.set (x22_1 : Int).toNat false) bt256.1 bt256.2.1 (l0.length : Int) (wrap64 (x22_1 + 1)))) else (none)) else (none))) = some (r1, r2, r3) := by rw [if_neg (show ¬ (false = true) by decide)] at H; exact H
                      clear H
                      have H := H1
                      clear H1
                      by_cases c23 : x22_1 = a1
                      · rw [if_pos c23] at H
                        have c23b0 : (x22_1 == a1) = true := beq_iff_eq.mpr c23
                        have c23b1 : (x22_1 != a1) = false := bne_eq_false_iff_eq.mpr c23
                        clear c23
                        by_cases c24 : x7_1 = 0
                        · rw [if_pos c24] at H
                          have c24b0 : (x7_1 == 0) = true := beq_iff_eq.mpr c24
                          have c24b1 : (x7_1 != 0) = false := bne_eq_false_iff_eq.mpr c24
                          clear c24
                          have H' := Aside0.mk H
                          clear H
                          go_wp2
                          go_roundg kj13
                          case measure => have := HK1.out; have := HJ13.out; omega
                          case rel => exact ⟨(x5_1), (wrap64 (a3 + (rd (rd_L1 l0 x22_1) a2))), (wrap64 (a4 + 1)), (wrap64 (x22_1 + 1)), (by first | rfl | (simp; done) | (simp [*]; done)), (by first | rfl | (simp; done) | (simp [*]; done)), (by first | rfl | (simp; done) | (simp [*]; done)), H', ⟨by have := HK1.out; have := HJ13.out; omega⟩, ⟨by (with_reducible repeat (first | apply Kd.R_alloc | apply Kd.R_drewN | apply Kd.R_drew)); exact HO_5.out⟩, ⟨by repeat (first | (with_reducible first | exact HK.out | apply Kept.alloc | apply Kept.drewN | apply Kept.drew) | exact HK.out)⟩, ⟨by repeat (first | (with_reducible first | exact HB.out | apply below_alloc | apply pw_below_drewN | apply below_drew1) | exact HB.out)⟩⟩
                        · rw [if_neg c24] at H
                          have c24b0 : (x7_1 == 0) = false := beq_eq_false_iff_ne.mpr c24
                          have c24b1 : (x7_1 != 0) = true := bne_iff_ne.mpr c24
                          by_cases c25 : (wrap64 ((wrap64 (a3 + (rd (rd_L1 l0 x22_1) a2))) * x7_1)) > (wrap64 (x6_1 * (wrap64 (a4 + 1))))
                          · rw [if_pos c25] at H
                            have c25b0 : decide ((wrap64 (x6_1 * (wrap64 (a4 + 1)))) < (wrap64 ((wrap64 (a3 + (rd (rd_L1 l0 x22_1) a2))) * x7_1))) = true := decide_eq_true c25
                            clear c25
                            have H' := Aside0.mk H
                            clear H
                            go_wp2
                            go_roundg kj13
                            case measure => have := HK1.out; have := HJ13.out; omega
                            case rel => exact ⟨(x5_1), (wrap64 (a3 + (rd (rd_L1 l0 x22_1) a2))), (wrap64 (a4 + 1)), (wrap64 (x22_1 + 1)), (by first | rfl | (simp; done) | (simp [*]; done)), (by first | rfl | (simp; done) | (simp [*]; done)), (by first | rfl | (simp; done) | (simp [*]; done)), H', ⟨by have := HK1.out; have := HJ13.out; omega⟩, ⟨by (with_reducible repeat (first | apply Kd.R_alloc | apply Kd.R_drewN | apply Kd.R_drew)); exact HO_5.out⟩, ⟨by repeat (first | (with_reducible first | exact HK.out | apply Kept.alloc | apply Kept.drewN | apply Kept.drew) | exact HK.out)⟩, ⟨by repeat (first | (with_reducible first | exact HB.out | apply below_alloc | apply pw_below_drewN | apply below_drew1) | exact HB.out)⟩⟩
                          · rw [if_neg c25] at H
                            have c25b0 : decide ((wrap64 (x6_1 * (wrap64 (a4 + 1)))) < (wrap64 ((wrap64 (a3 + (rd (rd_L1 l0 x22_1) a2))) * x7_1))) = false := decide_eq_false c25
                            clear c25
                            have H' := Aside0.mk H
                            clear H
                            go_wp2
                            go_roundg kj13
                            case measure => have := HK1.out; have := HJ13.out; omega
                            case rel => exact ⟨(x5_1), (x6_1), (x7_1), (wrap64 (x22_1 + 1)), (by first | rfl | (simp; done) | (simp [*]; done)), (by first | rfl | (simp; done) | (simp [*]; done)), (by first | rfl | (simp; done) | (simp [*]; done)), H', ⟨by have := HK1.out; have := HJ13.out; omega⟩, ⟨by (with_reducible repeat (first | apply Kd.R_alloc | apply Kd.R_drewN | apply Kd.R_drew)); exact HO_5.out⟩, ⟨by repeat (first | (with_reducible first | exact HK.out | apply Kept.alloc | apply Kept.drewN | apply Kept.drew) | exact HK.out)⟩, ⟨by repeat (first | (with_reducible first | exact HB.out | apply below_alloc | apply pw_below_drewN | apply below_drew1) | exact HB.out)⟩⟩
                      · rw [if_neg c23] at H
                        have c23b0 : (x22_1 == a1) = false := beq_eq_false_iff_ne.mpr c23
                        have c23b1 : (x22_1 != a1) = true := bne_iff_ne.mpr c23
                        by_cases c26 : 0 ≤ x22_1
                        · rw [if_pos c26] at H
                          have c26b0 : decide (0 ≤ x22_1) = true := decide_eq_true c26
                          clear c26
                          by_cases c27 : x22_1 < (x5_1.length : Int)
                          · rw [if_pos c27] at H
                            have c27b0 : decide (x22_1 < (x5_1.length : Int)) = true := decide_eq_true c27
                            clear c27
                            obtain ⟨y255, hy255⟩ : ∃ y_ : List Bool, y_ = (x5_1.set (x22_1 : Int).toNat true) := ⟨_, rfl⟩
                            replace H : ((railplanlaw33_walk.f kj13 l0 a1 x22_1 (wrap64 (a3 + (rd (rd_L1 l0 x22_1) a2))) (wrap64 (a4 + 1)) y255 x6_1 x7_1).bind fun bt256 => (railplanlaw33_walk.l0 kj13 l0 a1 a2 a3 a4 (bt256.2.2.set (x22_1 : Int).toNat false) bt256.1 bt256.2.1 (l0.length : Int) (wrap64 (x22_1 + 1)))) = some (r1, r2, r3) := by first | (rw [hy255]; with_reducible exact H) | (have H2_ := (Option.bind_some _ _).symm.trans H; rw [hy255]; with_reducible exact H2_) | (have H2_ := (Option.bind_some _ _).symm.trans H; with_reducible exact H2_) | with_reducible exact H | (rw [hy255]; exact H) | exact H
                            have Ny255 := Aside0.mk hy255
                            clear hy255
                            replace H := Option.bind_eq_some_iff.mp H
                            obtain ⟨⟨t256, t257, t258⟩, A290, H⟩ := H
                            replace H : (railplanlaw33_walk.l0 kj13 l0 a1 a2 a3 a4 (t258.set (x22_1 : Int).toNat false) t256 t257 (l0.length : Int) (wrap64 (x22_1 + 1))) = some (r1, r2, r3) := H
                            have A29 := Aside0.mk A290
                            clear A290
                            obtain ⟨y259, hy259⟩ : ∃ y_ : List Bool, y_ = (t258.set (x22_1 : Int).toNat false) := ⟨_, rfl⟩
                            replace H : (railplanlaw33_walk.l0 kj13 l0 a1 a2 a3 a4 y259 t256 t257 (l0.length : Int) (wrap64 (x22_1 + 1))) = some (r1, r2, r3) := by first | (rw [hy259]; with_reducible exact H) | (have H2_ := (Option.bind_some _ _).symm.trans H; rw [hy259]; with_reducible exact H2_) | (have H2_ := (Option.bind_some _ _).symm.trans H; with_reducible exact H2_) | with_reducible exact H | (rw [hy259]; exact H) | exact H
                            have Ny259 := Aside0.mk hy259
                            clear hy259
                            have H' := Aside0.mk H
                            clear H
                            have p28 : 0 ≤ (x22_1 : Int) := of_decide_eq_true (by first | (with_reducible assumption) | assumption)
                            have q28 : (x22_1 : Int) < ((x5_1.length : Int) : Int) := of_decide_eq_true (by first | (with_reducible assumption) | assumption)
                            obtain ⟨go28, co28, eo28, gb28, gl28, cl28, HG28⟩ := Kd.R_form HO_5.out (by omega)
                            (first | cases eo28 | (injection eo28 with ea_ en_ ec_; (first | subst ea_ | (injection ea_ with ea_; subst ea_)); subst ec_; clear en_))
                            have GB28 := Aside0.mk gb28
                            have GG28 := Aside0.mk HG28
                            clear gb28 gl28 HG28
                            have HMgo28 := Aside0.mk (show (P5_ go28 ∨ w.heap.size ≤ go28) from (HO_5.out.1 _ rfl))
                            obtain ⟨hx28_0, hf28_0⟩ := Kd.R_celln false HO_5.out (x22_1 : Int) p28 q28
                            replace p28 := eq_true p28
                            replace q28 := eq_true q28
                            have HP31 := Kd.R_putg HO_5.out (x22_1 : Int) true
                            go_wp2_with (first | ((with_reducible refine gate_store (t := 4) (p := 74) rfl ?_); refine store_event (t := 4) (p := 74) (v := ?vo_w32) (w1 := (wc.setCell ⟨go28, (x22_1 : Int).toNat, none⟩ (.bool true))) ?hg ?ho ?hn ?hr ?_; (case ho => rfl); (case hg => rfl); (case hn => rfl); (case hr => first | (go_simp; done) | (go_simp; rfl)); intro w32 hw; have hg : wc.grownBy w32 (some go28) := (by rw [hw]; exact HP31.2); have hp_ : Kd.R Kd.bool 4 w32 w0.heap.size (fun k_ => (P5_ k_ ∨ w.heap.size ≤ k_)) (.slice (some ⟨go28, 0, none⟩) x5_1.length co28) y255 := (by rw [hw, Ny255.out]; exact HP31.1); clear HP31; have n0_ := Aside0.mk (hp_); have n1_ := Aside0.mk ((by rw [hw]; exact below_set (HB.out) GB28.out : Below w0.heap.size w0 w32)); have n2_ := Aside0.mk (Kept.of_grown (S := (fun k_ => P5_ k_)) hg (by repeat (first | (with_reducible first | exact HK.out | apply Kept.alloc | apply Kept.drewN | apply Kept.drew) | exact HK.out)) (fun k_ e_ => (HO_5.out.1 k_ e_))); clear HO_5; clear HB; clear HK; have HO_5 := n0_; have HB := n1_; have HK := n2_; clear n0_ n1_ n2_; clear hg hw hp_) | ((with_reducible refine gate_callee (f := 19) rfl ?_); refine goesL_ (some 87) rfl rfl Try.func19 (by kernel_rfl) rfl #[.slice (some ad252) l0.length c0, .int .i64 a1, .int .i64 x22_1, .int .i64 (wrap64 (a3 + (rd (rd_L1 l0 x22_1) a2))), .int .i64 (wrap64 (a4 + 1)), .slice (some ⟨go28, 0, none⟩) x5_1.length co28, .int .i64 x6_1, .int .i64 x7_1] rfl (by (try simp only [List.map_toArray, List.map_cons, List.map_nil]); first | done | rfl | (simp only [List.length_drop, List.length_take]; rfl)) ?_; (with_reducible refine (ih kj13 (by have := HK1.out; have := HJ13.out; omega) _ _ l0 a1 x22_1 (wrap64 (a3 + (rd (rd_L1 l0 x22_1) a2))) (wrap64 (a4 + 1)) (fun k_ => some k_ = (.slice (some ⟨go28, 0, none⟩) x5_1.length co28 : Value).ownBlock) (.slice (some ⟨go28, 0, none⟩) x5_1.length co28) y255 x6_1 x7_1 t256 t257 t258 w0 _ ?side1 ?side2 ?side3 ?side4 A29.out).mono ?_); (case side1 => repeat (first | (with_reducible first | exact HB.out | apply below_alloc | apply pw_below_drewN | apply below_drew1) | exact HB.out)); (case side2 => exact Kd.C_kept_call HR0.out (by repeat (first | (with_reducible first | exact HK.out | apply Kept.alloc | apply Kept.drewN | apply Kept.drew) | exact HK.out)) (fun k_ hs_ => (fun e_ => (HO_5.out.1 k_ e_.symm)) hs_)); (case side3 => exact HC0.out); (case side4 => exact Kd.R_tight rfl HO_5.out); rintro e w33 ⟨rfl, hy0, hb, hkp⟩; refine ⟨_, rfl, ?_⟩; have n0_ := Aside0.mk (Kd.R_reok rfl hy0 (fun k_ e_ => HO_5.out.1 k_ e_)); have n1_ := Aside0.mk (Kept.then_ (S := (fun k_ => P5_ k_)) (by repeat (first | (with_reducible first | exact HK.out | apply Kept.alloc | apply Kept.drewN | apply Kept.drew) | exact HK.out)) hkp (fun k_ hs_ => (fun e_ => (HO_5.out.1 k_ e_.symm)) hs_)); have n2_ := Aside0.mk (hb); clear HO_5; clear HK; clear HB; have HO_5 := n0_; have HK := n1_; have HB := n2_; clear n0_ n1_ n2_; (try clear hb); (try clear hkp); (try clear hy0); have p30 : 0 ≤ (x22_1 : Int) := of_decide_eq_true (by first | (with_reducible assumption) | assumption); have q30 : (x22_1 : Int) < ((x5_1.length : Int) : Int) := of_decide_eq_true (by first | (with_reducible assumption) | assumption); obtain ⟨hx30_0, hf30_0⟩ := Kd.R_celln false HO_5.out (x22_1 : Int) p30 q30; replace p30 := eq_true p30; replace q30 := eq_true q30; obtain ⟨hy34_, hz34_⟩ := Kd.R_celln false HO_5.out (x22_1 : Int) (of_decide_eq_true (by first | (with_reducible assumption) | assumption)) (of_decide_eq_true (by first | (with_reducible assumption) | assumption)); have HP34 := Kd.R_putg HO_5.out (x22_1 : Int) false) | ((with_reducible refine gate_store (t := 4) (p := 92) rfl ?_); refine store_event (t := 4) (p := 92) (v := ?vo_w35) (w1 := (w33.setCell ⟨go28, (x22_1 : Int).toNat, none⟩ (.bool false))) ?hg ?ho ?hn ?hr ?_; (case ho => rfl); (case hg => rfl); (case hn => rfl); (case hr => first | (go_simp; done) | (go_simp; rfl)); intro w35 hw; have hg : w33.grownBy w35 (some go28) := (by rw [hw]; exact HP34.2); have hp_ : Kd.R Kd.bool 4 w35 w0.heap.size (fun k_ => (P5_ k_ ∨ w.heap.size ≤ k_)) (.slice (some ⟨go28, 0, none⟩) x5_1.length co28) y259 := (by rw [hw, Ny259.out]; exact HP34.1); clear HP34; have n0_ := Aside0.mk (hp_); have n1_ := Aside0.mk ((by rw [hw]; exact below_set (HB.out) GB28.out : Below w0.heap.size w0 w35)); have n2_ := Aside0.mk (Kept.of_grown (S := (fun k_ => P5_ k_)) hg (by repeat (first | (with_reducible first | exact HK.out | apply Kept.alloc | apply Kept.drewN | apply Kept.drew) | exact HK.out)) (fun k_ e_ => (HO_5.out.1 k_ e_))); clear HO_5; clear HB; clear HK; have HO_5 := n0_; have HB := n1_; have HK := n2_; clear n0_ n1_ n2_; clear hg hw hp_))
                            go_roundg kj13
                            case measure => have := HK1.out; have := HJ13.out; omega
                            case rel => exact ⟨(y259), (t256), (t257), (wrap64 (x22_1 + 1)), (by first | rfl | (simp; done) | (simp [*]; done)), (by first | rfl | (simp; done) | (simp [*]; done)), (by first | rfl | (simp; done) | (simp [*]; done)), H', ⟨by have := HK1.out; have := HJ13.out; omega⟩, ⟨by (with_reducible repeat (first | apply Kd.R_alloc | apply Kd.R_drewN | apply Kd.R_drew)); exact HO_5.out⟩, ⟨by repeat (first | (with_reducible first | exact HK.out | apply Kept.alloc | apply Kept.drewN | apply Kept.drew) | exact HK.out)⟩, ⟨by repeat (first | (with_reducible first | exact HB.out | apply below_alloc | apply pw_below_drewN | apply below_drew1) | exact HB.out)⟩⟩
                          · rw [if_neg c27] at H
                            exact absurd H (by simp)
                        · rw [if_neg c26] at H
                          exact absurd H (by simp)
              · rw [if_neg c13] at H
                exact absurd H (by simp)
            · rw [if_neg c12] at H
              exact absurd H (by simp)
          · rw [if_neg c11] at H
            exact absurd H (by simp)
        · rw [if_neg c10] at H
          exact absurd H (by simp)
      · rw [if_neg c9] at H
        have c9b0 : decide (x22_1 < (l0.length : Int)) = false := decide_eq_false c9
        clear c9
        simp only [Option.some.injEq, Prod.mk.injEq] at H
        obtain ⟨rfl, rfl, rfl⟩ := H
        go_wp2
        go_ret2
        exact ⟨by first | rfl | (simp [errW_none, errW_some] <;> rfl) | (simp [*, errW_none, errW_some] <;> rfl), by (with_reducible repeat (first | apply Kd.R_alloc | apply Kd.R_drewN | apply Kd.R_drew)); exact HO_5.out, by repeat (first | (with_reducible first | exact HB.out | apply below_alloc | apply pw_below_drewN | apply below_drew1) | exact HB.out), by repeat (first | (with_reducible first | exact HK.out | apply Kept.alloc | apply Kept.drewN | apply Kept.drew) | exact HK.out)⟩

end Go.Proofs.Ytnmhdeibjglhcaa.XMaxplusCycles
