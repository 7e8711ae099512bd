-- This session's own text, written by wip/tools/xprint.py after the form of the kit's print.
import Derived.Test.YtnmhdeibjglhcaaXMaxplusAssociativex0
import Derived.Test.YtnmhdeibjglhcaaXMaxplusAssociativex1
import Derived.Test.YtnmhdeibjglhcaaXMaxplusAssociativex2
import Derived.Test.YtnmhdeibjglhcaaXMaxplusAssociativex3
import Derived.Test.YtnmhdeibjglhcaaXMaxplusAssociativex4
import Derived.Test.YtnmhdeibjglhcaaXMaxplusAssociativex5
import Derived.Test.YtnmhdeibjglhcaaXMaxplusAssociativex6
import Derived.Test.YtnmhdeibjglhcaaXMaxplusAssociativex7
namespace Go.Proofs.Ytnmhdeibjglhcaa.XMaxplusAssociative
open Go.RowKit Go.Proofs.YtnmhdeibjglhcaaW.PrintWords Go.Proofs.YtnmhdeibjglhcaaW.PrintLast Go.Proofs.YtnmhdeibjglhcaaW.PrintMore
attribute [local go_sem] max2_int min2_int max_two min_two max_three min_three max_four min_four   -- for this text's walks alone
set_option linter.unusedVariables false
set_option linter.unusedSimpArgs false

/-! ### railplanlaw33_example: function 37 -/
def railplanlaw33_example.f  : Option ((List (List Int))) := some (([(([(-1125899906842624), 3] : List Int)), (([2, (-1125899906842624)] : List Int))] : List (List Int)))
set_option maxHeartbeats 8000000 in
set_option maxRecDepth 100000 in
theorem railplanlaw33_example.calls  (r : List (List Int)) (w : World) (h : railplanlaw33_example.f  = some r) :
    Calls Try.prog 37 #[] w fun e w' => ∃ v0_ : Value, e = .returned (v0_) ∧ Kd.N (Kd.slice 3 (Kd.int .i64)) 22 w' w.heap.size (fun k_ => (w.heap.size ≤ k_)) v0_ r ∧ Below w.heap.size w w' := by
  have HB := Aside0.mk (Below.refl w.heap.size w)
  have H : (some (([(([(-1125899906842624), 3] : List Int)), (([2, (-1125899906842624)] : List Int))] : List (List Int)))) = some r := h
  clear h
  obtain ⟨y208, hy208⟩ : ∃ y_ : List Int, y_ = (([(-1125899906842624), 3] : List Int)) := ⟨_, rfl⟩
  replace H : (some (([y208, (([2, (-1125899906842624)] : List Int))] : List (List Int)))) = some r := by first | (rw [hy208]; with_reducible exact H) | (have H2_ := (Option.bind_some _ _).symm.trans H; rw [hy208]; with_reducible exact H2_) | (have H2_ := (Option.bind_some _ _).symm.trans H; with_reducible exact H2_) | with_reducible exact H | (rw [hy208]; exact H) | exact H
  have Ny208 := Aside0.mk hy208
  clear hy208
  obtain ⟨y211, hy211⟩ : ∃ y_ : List Int, y_ = (([2, (-1125899906842624)] : List Int)) := ⟨_, rfl⟩
  replace H : (some (([y208, y211] : List (List Int)))) = some r := by first | (rw [hy211]; with_reducible exact H) | (have H2_ := (Option.bind_some _ _).symm.trans H; rw [hy211]; with_reducible exact H2_) | (have H2_ := (Option.bind_some _ _).symm.trans H; with_reducible exact H2_) | with_reducible exact H | (rw [hy211]; exact H) | exact H
  have Ny211 := Aside0.mk hy211
  clear hy211
  obtain ⟨y214, hy214⟩ : ∃ y_ : List (List Int), y_ = (([y208, y211] : List (List Int))) := ⟨_, rfl⟩
  replace H : (some y214) = some r := by first | (rw [hy214]; with_reducible exact H) | (have H2_ := (Option.bind_some _ _).symm.trans H; rw [hy214]; with_reducible exact H2_) | (have H2_ := (Option.bind_some _ _).symm.trans H; with_reducible exact H2_) | with_reducible exact H | (rw [hy214]; exact H) | exact H
  have Ny214 := Aside0.mk hy214
  clear hy214
  obtain rfl := Option.some.inj H
  go_enter Try.func37, Try.ntmps37
  go_wp2_with (first | ((with_reducible refine gate_dst (N := 1) rfl ?_); refine Kd.R_lit (Kd.int .i64) _ 3 ?hg (N := 1) ?hd (xs := ([(-1125899906842624), 3] : List Int)) (inner := [.int .i64 (-1125899906842624), .int .i64 3]) (ok := fun _ => True) (okp := fun _ => True) ?hr ?hp (fun _ hk => hk) trivial (Below.refl _ _) (Nat.le_refl _) (by simp) ?_; (case hd => rfl); (case hg => rfl); (case hr => first | (go_simp; done) | (go_simp; rfl)); (case hp => exact (Reps.one (show Kd.M (Kd.int .i64) _ _ _ (-1125899906842624) [.int .i64 (-1125899906842624)] from rfl) (Reps.one (show Kd.M (Kd.int .i64) _ _ _ 3 [.int .i64 3] from rfl) (Reps.none _ _)))); intro v209 w1 ho2 hb hg_ hnew_; clear hg_ hnew_; (first | rw [← Ny208.out] at ho2 | (simp only [Int.reduceToNat] at ho2; rw [← Ny208.out] at ho2)); have n0_ := Aside0.mk (Kd.R_lower (Kd.R_newM (M := fun k_ => (w.heap.size ≤ k_)) ho2 (below_size (by repeat (first | (with_reducible first | exact HB.out | apply below_alloc | apply pw_below_drewN | apply below_drew1) | exact HB.out))) (fun k_ h_ => h_)) (below_size (by repeat (first | (with_reducible first | exact HB.out | apply below_alloc | apply pw_below_drewN | apply below_drew1) | exact HB.out)))); have n1_ := Aside0.mk (below_step (by repeat (first | (with_reducible first | exact HB.out | apply below_alloc | apply pw_below_drewN | apply below_drew1) | exact HB.out)) hb); clear HB; have HO210 := n0_; have HB := n1_; clear n0_ n1_; clear hb ho2) | ((with_reducible refine gate_dst (N := 2) rfl ?_); refine Kd.R_lit (Kd.int .i64) _ 3 ?hg (N := 2) ?hd (xs := ([2, (-1125899906842624)] : List Int)) (inner := [.int .i64 2, .int .i64 (-1125899906842624)]) (ok := fun _ => True) (okp := fun _ => True) ?hr ?hp (fun _ hk => hk) trivial (Below.refl _ _) (Nat.le_refl _) (by simp) ?_; (case hd => rfl); (case hg => rfl); (case hr => first | (go_simp; done) | (go_simp; rfl)); (case hp => exact (Reps.one (show Kd.M (Kd.int .i64) _ _ _ 2 [.int .i64 2] from rfl) (Reps.one (show Kd.M (Kd.int .i64) _ _ _ (-1125899906842624) [.int .i64 (-1125899906842624)] from rfl) (Reps.none _ _)))); intro v212 w3 ho4 hb hg_ hnew_; clear hg_ hnew_; (first | rw [← Ny211.out] at ho4 | (simp only [Int.reduceToNat] at ho4; rw [← Ny211.out] at ho4)); have n0_ := Aside0.mk (Kd.R_elder' (by (with_reducible repeat (first | apply Kd.R_alloc | apply Kd.R_drewN | apply Kd.R_drew)); exact HO210.out) (by first | exact Kd.N_base ho4 | exact Kd.S_base ho4 | exact Kd.R_base ho4 | exact Kd.Q_base ho4) hb); have n1_ := Aside0.mk (Kd.R_lower (Kd.R_new' (Kd.R_newM (M := fun k_ => (w.heap.size ≤ k_)) ho4 (below_size (by repeat (first | (with_reducible first | exact HB.out | apply below_alloc | apply pw_below_drewN | apply below_drew1) | exact HB.out))) (fun k_ h_ => h_)) (Kd.R_lt (by (with_reducible repeat (first | apply Kd.R_alloc | apply Kd.R_drewN | apply Kd.R_drew)); exact HO210.out))) (below_size (by repeat (first | (with_reducible first | exact HB.out | apply below_alloc | apply pw_below_drewN | apply below_drew1) | exact HB.out)))); have n2_ := Aside0.mk (below_step (by repeat (first | (with_reducible first | exact HB.out | apply below_alloc | apply pw_below_drewN | apply below_drew1) | exact HB.out)) hb); clear HO210; clear HB; have HO210 := n0_; have HO213 := n1_; have HB := n2_; clear n0_ n1_ n2_; clear hb ho4; obtain ⟨Ao5, co5, eo5⟩ := Kd.R_slice HO210.out; subst eo5; obtain ⟨Ao6, co6, eo6⟩ := Kd.R_slice HO213.out; subst eo6) | ((with_reducible refine gate_dst (N := 3) rfl ?_); refine Kd.N_lit (Kd.slice 3 (Kd.int .i64)) _ 22 ?hg (N' := 3) ?hd (xs := ([y208, y211] : List (List Int))) (inner := [.slice Ao5 y208.length co5, .slice Ao6 y211.length co6]) (ok := (fun k_ => (w.heap.size ≤ k_))) (okp := (fun k_ => (w.heap.size ≤ k_))) ?hr ?hp (fun _ hk => hk) ((show ∀ k_, w3.heap.size ≤ k_ → (fun k_ => (w.heap.size ≤ k_)) k_ from fun k_ hk => (Nat.le_trans (below_size (by repeat (first | (with_reducible first | exact HB.out | apply below_alloc | apply pw_below_drewN | apply below_drew1) | exact HB.out))) hk)) _ (Nat.le_refl _)) (Below.refl _ _) (Nat.le_refl _) (by simp) ?_; (case hd => rfl); (case hg => rfl); (case hr => first | (go_simp; done) | (go_simp; rfl)); (case hp => exact (Reps.one (show Kd.FK (Kd.slice 3 (Kd.int .i64)) _ _ y208 [.slice Ao5 y208.length co5] from (Kd.FK_slice_mk (Kd.R_reads' (Kd.R_mono (ok' := (fun k_ => (w.heap.size ≤ k_))) (HO210.out) (fun k_ hk => hk.1.1))).2.1 (Kd.R_F (Kd.R_mono (ok' := (fun k_ => (w.heap.size ≤ k_))) (HO210.out) (fun k_ hk => hk.1.1))))) (Reps.one (show Kd.FK (Kd.slice 3 (Kd.int .i64)) _ _ y211 [.slice Ao6 y211.length co6] from (Kd.FK_slice_mk (Kd.R_reads' (Kd.R_mono (ok' := (fun k_ => (w.heap.size ≤ k_))) (HO213.out) (fun k_ hk => hk.1.1))).2.1 (Kd.R_F (Kd.R_mono (ok' := (fun k_ => (w.heap.size ≤ k_))) (HO213.out) (fun k_ hk => hk.1.1))))) (Reps.none _ _)))); intro v215 w7 ho8 hb hg_ hnew_; clear hg_ hnew_; (first | rw [← Ny214.out] at ho8 | (simp only [Int.reduceToNat] at ho8; rw [← Ny214.out] at ho8)); have n0_ := Aside0.mk (Kd.N_lower ho8 (below_size (by repeat (first | (with_reducible first | exact HB.out | apply below_alloc | apply pw_below_drewN | apply below_drew1) | exact HB.out)))); have n1_ := Aside0.mk (below_step (by repeat (first | (with_reducible first | exact HB.out | apply below_alloc | apply pw_below_drewN | apply below_drew1) | exact HB.out)) hb); clear HB; clear HO210; clear HO213; have HO216 := n0_; have HB := n1_; clear n0_ n1_; clear hb ho8))
  go_ret
  exact ⟨_, by first | rfl | (simp [errW_none, errW_some] <;> rfl) | (simp [*, errW_none, errW_some] <;> rfl), by (with_reducible repeat (first | apply Kd.N_alloc | apply Kd.N_drewN | apply Kd.N_drew)); exact HO216.out, by repeat (first | (with_reducible first | exact HB.out | apply below_alloc | apply pw_below_drewN | apply below_drew1) | exact HB.out)⟩

/-! ### railplanlaw33_awake: function 17 -/
def railplanlaw33_awake.f (k : Nat)  : Option (Bool) := (railplanlaw33_example.f).bind fun t217 => ((maxplus_Mean.f k t217).bind fun bt220 => ((railplanlaw33_example.f).bind fun t223 => ((maxplus_Power.f k t223 2).bind fun bt226 => ((railplanlaw33_example.f).bind fun t230 => ((maxplus_Recover.f k t230 (([2, 0] : List Int)) 4 9).bind fun bt236 => (if bt220.2.2 = true then (if bt220.1 = 5 then (if bt220.2.1 = 2 then (if bt226.2 = 0 then ((railplankeep_SameLists_int.f k bt226.1 (([(([5, (-1125899906842624)] : List Int)), (([(-1125899906842624), 5] : List Int))] : List (List Int)))).bind fun t247 => (if t247 = true then (if bt236.2 = true then (if bt236.1 = 1 then ((railplanlaw33_example.f).bind fun t248 => ((maxplus_Check.f k t248).bind fun t251 => (some t251))) else (some false)) else (some false)) else (some false))) else (some false)) else (some false)) else (some false)) else (some false)))))))
theorem railplanlaw33_awake.mono : ∀ k, LeO (railplanlaw33_awake.f k ) (railplanlaw33_awake.f (k + 1) ) := by
  intro  k
  unfold railplanlaw33_awake.f
  repeat' first
      | (with_reducible exact maxplus_Check.mono _ _)
      | (with_reducible exact maxplus_Mean.mono _ _)
      | (with_reducible exact maxplus_Power.mono _ _ _)
      | (with_reducible exact maxplus_Recover.mono _ _ _ _ _)
      | (with_reducible exact railplankeep_SameLists_int.mono _ _ _)
      | (with_reducible exact LeO.refl _)
      | (with_reducible exact LeO.none _)
      | (with_reducible refine LeO.ite ?_ ?_)
      | (with_reducible refine LeO.bind ?_ (fun _ => ?_))
      | exact maxplus_Check.mono _ _
      | exact maxplus_Mean.mono _ _
      | exact maxplus_Power.mono _ _ _
      | exact maxplus_Recover.mono _ _ _ _ _
      | exact railplankeep_SameLists_int.mono _ _ _
      | exact LeO.none _
      | refine LeO.ite ?_ ?_
      | refine LeO.bind ?_ (fun _ => ?_)
set_option maxHeartbeats 8000000 in
set_option maxRecDepth 100000 in
theorem railplanlaw33_awake.calls (k : Nat)  (r : Bool) (w : World) (h : railplanlaw33_awake.f k  = some r) (hT : Aside0 (r = true)) :
    Calls Try.prog 17 #[] w fun e w' => e = .returned (.bool r) ∧ Below w.heap.size w w' := by
  have HB := Aside0.mk (Below.refl w.heap.size w)
  have H : ((railplanlaw33_example.f).bind fun t217 => ((maxplus_Mean.f k t217).bind fun bt220 => ((railplanlaw33_example.f).bind fun t223 => ((maxplus_Power.f k t223 2).bind fun bt226 => ((railplanlaw33_example.f).bind fun t230 => ((maxplus_Recover.f k t230 (([2, 0] : List Int)) 4 9).bind fun bt236 => (if bt220.2.2 = true then (if bt220.1 = 5 then (if bt220.2.1 = 2 then (if bt226.2 = 0 then ((railplankeep_SameLists_int.f k bt226.1 (([(([5, (-1125899906842624)] : List Int)), (([(-1125899906842624), 5] : List Int))] : List (List Int)))).bind fun t247 => (if t247 = true then (if bt236.2 = true then (if bt236.1 = 1 then ((railplanlaw33_example.f).bind fun t248 => ((maxplus_Check.f k t248).bind fun t251 => (some t251))) else (some false)) else (some false)) else (some false))) else (some false)) else (some false)) else (some false)) else (some false)))))))) = some r := h
  clear h
  replace H := Option.bind_eq_some_iff.mp H
  obtain ⟨t217, A10, H⟩ := H
  replace H : ((maxplus_Mean.f k t217).bind fun bt220 => ((railplanlaw33_example.f).bind fun t223 => ((maxplus_Power.f k t223 2).bind fun bt226 => ((railplanlaw33_example.f).bind fun t230 => ((maxplus_Recover.f k t230 (([2, 0] : List Int)) 4 9).bind fun bt236 => (if bt220.2.2 = true then (if bt220.1 = 5 then (if bt220.2.1 = 2 then (if bt226.2 = 0 then ((railplankeep_SameLists_int.f k bt226.1 (([(([5, (-1125899906842624)] : List Int)), (([(-1125899906842624), 5] : List Int))] : List (List Int)))).bind fun t247 => (if t247 = true then (if bt236.2 = true then (if bt236.1 = 1 then ((railplanlaw33_example.f).bind fun t248 => ((maxplus_Check.f k t248).bind fun t251 => (some t251))) else (some false)) else (some false)) else (some false))) else (some false)) else (some false)) else (some false)) else (some false))))))) = some r := H
  have A1 := Aside0.mk A10
  clear A10
  replace H := Option.bind_eq_some_iff.mp H
  obtain ⟨⟨t220, t221, t222⟩, A20, H⟩ := H
  replace H : ((railplanlaw33_example.f).bind fun t223 => ((maxplus_Power.f k t223 2).bind fun bt226 => ((railplanlaw33_example.f).bind fun t230 => ((maxplus_Recover.f k t230 (([2, 0] : List Int)) 4 9).bind fun bt236 => (if t222 = true then (if t220 = 5 then (if t221 = 2 then (if bt226.2 = 0 then ((railplankeep_SameLists_int.f k bt226.1 (([(([5, (-1125899906842624)] : List Int)), (([(-1125899906842624), 5] : List Int))] : List (List Int)))).bind fun t247 => (if t247 = true then (if bt236.2 = true then (if bt236.1 = 1 then ((railplanlaw33_example.f).bind fun t248 => ((maxplus_Check.f k t248).bind fun t251 => (some t251))) else (some false)) else (some false)) else (some false))) else (some false)) else (some false)) else (some false)) else (some false)))))) = some r := H
  have A2 := Aside0.mk A20
  clear A20
  replace H := Option.bind_eq_some_iff.mp H
  obtain ⟨t223, A30, H⟩ := H
  replace H : ((maxplus_Power.f k t223 2).bind fun bt226 => ((railplanlaw33_example.f).bind fun t230 => ((maxplus_Recover.f k t230 (([2, 0] : List Int)) 4 9).bind fun bt236 => (if t222 = true then (if t220 = 5 then (if t221 = 2 then (if bt226.2 = 0 then ((railplankeep_SameLists_int.f k bt226.1 (([(([5, (-1125899906842624)] : List Int)), (([(-1125899906842624), 5] : List Int))] : List (List Int)))).bind fun t247 => (if t247 = true then (if bt236.2 = true then (if bt236.1 = 1 then ((railplanlaw33_example.f).bind fun t248 => ((maxplus_Check.f k t248).bind fun t251 => (some t251))) else (some false)) else (some false)) else (some false))) else (some false)) else (some false)) else (some false)) else (some false))))) = some r := H
  have A3 := Aside0.mk A30
  clear A30
  replace H := Option.bind_eq_some_iff.mp H
  obtain ⟨⟨t226, t227⟩, A40, H⟩ := H
  replace H : ((railplanlaw33_example.f).bind fun t230 => ((maxplus_Recover.f k t230 (([2, 0] : List Int)) 4 9).bind fun bt236 => (if t222 = true then (if t220 = 5 then (if t221 = 2 then (if t227 = 0 then ((railplankeep_SameLists_int.f k t226 (([(([5, (-1125899906842624)] : List Int)), (([(-1125899906842624), 5] : List Int))] : List (List Int)))).bind fun t247 => (if t247 = true then (if bt236.2 = true then (if bt236.1 = 1 then ((railplanlaw33_example.f).bind fun t248 => ((maxplus_Check.f k t248).bind fun t251 => (some t251))) else (some false)) else (some false)) else (some false))) else (some false)) else (some false)) else (some false)) else (some false)))) = some r := H
  have A4 := Aside0.mk A40
  clear A40
  replace H := Option.bind_eq_some_iff.mp H
  obtain ⟨t230, A50, H⟩ := H
  replace H : ((maxplus_Recover.f k t230 (([2, 0] : List Int)) 4 9).bind fun bt236 => (if t222 = true then (if t220 = 5 then (if t221 = 2 then (if t227 = 0 then ((railplankeep_SameLists_int.f k t226 (([(([5, (-1125899906842624)] : List Int)), (([(-1125899906842624), 5] : List Int))] : List (List Int)))).bind fun t247 => (if t247 = true then (if bt236.2 = true then (if bt236.1 = 1 then ((railplanlaw33_example.f).bind fun t248 => ((maxplus_Check.f k t248).bind fun t251 => (some t251))) else (some false)) else (some false)) else (some false))) else (some false)) else (some false)) else (some false)) else (some false))) = some r := H
  have A5 := Aside0.mk A50
  clear A50
  obtain ⟨y233, hy233⟩ : ∃ y_ : List Int, y_ = (([2, 0] : List Int)) := ⟨_, rfl⟩
  replace H : ((maxplus_Recover.f k t230 y233 4 9).bind fun bt236 => (if t222 = true then (if t220 = 5 then (if t221 = 2 then (if t227 = 0 then ((railplankeep_SameLists_int.f k t226 (([(([5, (-1125899906842624)] : List Int)), (([(-1125899906842624), 5] : List Int))] : List (List Int)))).bind fun t247 => (if t247 = true then (if bt236.2 = true then (if bt236.1 = 1 then ((railplanlaw33_example.f).bind fun t248 => ((maxplus_Check.f k t248).bind fun t251 => (some t251))) else (some false)) else (some false)) else (some false))) else (some false)) else (some false)) else (some false)) else (some false))) = some r := by first | (rw [hy233]; with_reducible exact H) | (have H2_ := (Option.bind_some _ _).symm.trans H; rw [hy233]; with_reducible exact H2_) | (have H2_ := (Option.bind_some _ _).symm.trans H; with_reducible exact H2_) | with_reducible exact H | (rw [hy233]; exact H) | exact H
  have Ny233 := Aside0.mk hy233
  clear hy233
  replace H := Option.bind_eq_some_iff.mp H
  obtain ⟨⟨t236, t237⟩, A60, H⟩ := H
  replace H : (if t222 = true then (if t220 = 5 then (if t221 = 2 then (if t227 = 0 then ((railplankeep_SameLists_int.f k t226 (([(([5, (-1125899906842624)] : List Int)), (([(-1125899906842624), 5] : List Int))] : List (List Int)))).bind fun t247 => (if t247 = true then (if t237 = true then (if t236 = 1 then ((railplanlaw33_example.f).bind fun t248 => ((maxplus_Check.f k t248).bind fun t251 => (some t251))) else (some false)) else (some false)) else (some false))) else (some false)) else (some false)) else (some false)) else (some false)) = some r := H
  have A6 := Aside0.mk A60
  clear A60
  by_cases c7 : t222 = true
  · subst c7
    have H1 : (if t220 = 5 then (if t221 = 2 then (if t227 = 0 then ((railplankeep_SameLists_int.f k t226 (([(([5, (-1125899906842624)] : List Int)), (([(-1125899906842624), 5] : List Int))] : List (List Int)))).bind fun t247 => (if t247 = true then (if t237 = true then (if t236 = 1 then ((railplanlaw33_example.f).bind fun t248 => ((maxplus_Check.f k t248).bind fun t251 => (some t251))) else (some false)) else (some false)) else (some false))) else (some false)) else (some false)) else (some false)) = some r := by rw [if_pos rfl] at H; exact H
    clear H
    have H := H1
    clear H1
    by_cases c8 : t220 = 5
    · rw [if_pos c8] at H
      have c8b0 : (t220 == 5) = true := beq_iff_eq.mpr c8
      have c8b1 : (t220 != 5) = false := bne_eq_false_iff_eq.mpr c8
      clear c8
      by_cases c9 : t221 = 2
      · rw [if_pos c9] at H
        have c9b0 : (t221 == 2) = true := beq_iff_eq.mpr c9
        have c9b1 : (t221 != 2) = false := bne_eq_false_iff_eq.mpr c9
        clear c9
        by_cases c10 : t227 = 0
        · rw [if_pos c10] at H
          have c10b0 : (t227 == 0) = true := beq_iff_eq.mpr c10
          have c10b1 : (t227 != 0) = false := bne_eq_false_iff_eq.mpr c10
          clear c10
          obtain ⟨y238, hy238⟩ : ∃ y_ : List Int, y_ = (([5, (-1125899906842624)] : List Int)) := ⟨_, rfl⟩
          replace H : ((railplankeep_SameLists_int.f k t226 (([y238, (([(-1125899906842624), 5] : List Int))] : List (List Int)))).bind fun t247 => (if t247 = true then (if t237 = true then (if t236 = 1 then ((railplanlaw33_example.f).bind fun t248 => ((maxplus_Check.f k t248).bind fun t251 => (some t251))) else (some false)) else (some false)) else (some false))) = some r := by first | (rw [hy238]; with_reducible exact H) | (have H2_ := (Option.bind_some _ _).symm.trans H; rw [hy238]; with_reducible exact H2_) | (have H2_ := (Option.bind_some _ _).symm.trans H; with_reducible exact H2_) | with_reducible exact H | (rw [hy238]; exact H) | exact H
          have Ny238 := Aside0.mk hy238
          clear hy238
          obtain ⟨y241, hy241⟩ : ∃ y_ : List Int, y_ = (([(-1125899906842624), 5] : List Int)) := ⟨_, rfl⟩
          replace H : ((railplankeep_SameLists_int.f k t226 (([y238, y241] : List (List Int)))).bind fun t247 => (if t247 = true then (if t237 = true then (if t236 = 1 then ((railplanlaw33_example.f).bind fun t248 => ((maxplus_Check.f k t248).bind fun t251 => (some t251))) else (some false)) else (some false)) else (some false))) = some r := by first | (rw [hy241]; with_reducible exact H) | (have H2_ := (Option.bind_some _ _).symm.trans H; rw [hy241]; with_reducible exact H2_) | (have H2_ := (Option.bind_some _ _).symm.trans H; with_reducible exact H2_) | with_reducible exact H | (rw [hy241]; exact H) | exact H
          have Ny241 := Aside0.mk hy241
          clear hy241
          obtain ⟨y244, hy244⟩ : ∃ y_ : List (List Int), y_ = (([y238, y241] : List (List Int))) := ⟨_, rfl⟩
          replace H : ((railplankeep_SameLists_int.f k t226 y244).bind fun t247 => (if t247 = true then (if t237 = true then (if t236 = 1 then ((railplanlaw33_example.f).bind fun t248 => ((maxplus_Check.f k t248).bind fun t251 => (some t251))) else (some false)) else (some false)) else (some false))) = some r := by first | (rw [hy244]; with_reducible exact H) | (have H2_ := (Option.bind_some _ _).symm.trans H; rw [hy244]; with_reducible exact H2_) | (have H2_ := (Option.bind_some _ _).symm.trans H; with_reducible exact H2_) | with_reducible exact H | (rw [hy244]; exact H) | exact H
          have Ny244 := Aside0.mk hy244
          clear hy244
          replace H := Option.bind_eq_some_iff.mp H
          obtain ⟨t247, A110, H⟩ := H
          replace H : (if t247 = true then (if t237 = true then (if t236 = 1 then ((railplanlaw33_example.f).bind fun t248 => ((maxplus_Check.f k t248).bind fun t251 => (some t251))) else (some false)) else (some false)) else (some false)) = some r := H
          have A11 := Aside0.mk A110
          clear A110
          by_cases c12 : t247 = true
          · subst c12
            have H1 : (if t237 = true then (if t236 = 1 then ((railplanlaw33_example.f).bind fun t248 => ((maxplus_Check.f k t248).bind fun t251 => (some t251))) else (some false)) else (some false)) = some r := by rw [if_pos rfl] at H; exact H
            clear H
            have H := H1
            clear H1
            by_cases c13 : t237 = true
            · subst c13
              have H1 : (if t236 = 1 then ((railplanlaw33_example.f).bind fun t248 => ((maxplus_Check.f k t248).bind fun t251 => (some t251))) else (some false)) = some r := by rw [if_pos rfl] at H; exact H
              clear H
              have H := H1
              clear H1
              by_cases c14 : t236 = 1
              · rw [if_pos c14] at H
                have c14b0 : (t236 == 1) = true := beq_iff_eq.mpr c14
                have c14b1 : (t236 != 1) = false := bne_eq_false_iff_eq.mpr c14
                clear c14
                replace H := Option.bind_eq_some_iff.mp H
                obtain ⟨t248, A150, H⟩ := H
                replace H : ((maxplus_Check.f k t248).bind fun t251 => (some t251)) = some r := H
                have A15 := Aside0.mk A150
                clear A150
                replace H := Option.bind_eq_some_iff.mp H
                obtain ⟨t251, A160, H⟩ := H
                replace H : (some t251) = some r := H
                have A16 := Aside0.mk A160
                clear A160
                obtain rfl := Option.some.inj H
                go_enter Try.func17, Try.ntmps17
                go_wp2_with (first | ((with_reducible refine gate_callee (f := 37) rfl ?_); refine goesL_ (some 9) rfl rfl Try.func37 (by kernel_rfl) rfl #[] rfl (by (try simp only [List.map_toArray, List.map_cons, List.map_nil]); first | done | rfl | (simp only [List.length_drop, List.length_take]; rfl)) ?_; (with_reducible refine (railplanlaw33_example.calls  t217 _ A1.out).mono ?_); rintro e w17 ⟨v218, rfl, ho0, hb⟩; refine ⟨_, rfl, ?_⟩; have n0_ := Aside0.mk (Kd.N_lower (Kd.N_mono (ok' := fun k_ => True) ho0 (fun k_ hk_ => trivial)) (below_size (by repeat (first | (with_reducible first | exact HB.out | apply below_alloc | apply pw_below_drewN | apply below_drew1) | exact HB.out)))); have n1_ := Aside0.mk (below_step (by repeat (first | (with_reducible first | exact HB.out | apply below_alloc | apply pw_below_drewN | apply below_drew1) | exact HB.out)) hb); clear HB; have HO219 := n0_; have HB := n1_; clear n0_ n1_; (try clear hb); (try clear hb2); (try clear hk); (try clear hi); (try clear ho0); obtain ⟨Ao18, co18, eo18⟩ := Kd.N_slice HO219.out; subst eo18) | ((with_reducible refine gate_callee (f := 20) rfl ?_); refine goesL_ (some 10) rfl rfl Try.func20 (by kernel_rfl) rfl #[.slice Ao18 t217.length co18] rfl (by (try simp only [List.map_toArray, List.map_cons, List.map_nil]); first | done | rfl | (simp only [List.length_drop, List.length_take]; rfl)) ?_; (with_reducible refine (maxplus_Mean.calls k _ _ t217 t220 t221 true _ ?side1 ?side2 A2.out).mono ?_); (case side1 => repeat (first | exact (Kd.N_reads' HO219.out).2.2 | (with_reducible refine Kd.C_alloc ?_ _) | (with_reducible refine Kd.C_drewN ?_ _) | (with_reducible refine Kd.C_drew ?_))); (case side2 => exact (Kd.N_reads' HO219.out).2.1); rintro e w19 ⟨rfl, hb⟩; refine ⟨_, rfl, ?_⟩; have n0_ := Aside0.mk (Kd.N_below (by (with_reducible repeat (first | apply Kd.N_alloc | apply Kd.N_drewN | apply Kd.N_drew)); exact HO219.out) hb); have n1_ := Aside0.mk (below_step (by repeat (first | (with_reducible first | exact HB.out | apply below_alloc | apply pw_below_drewN | apply below_drew1) | exact HB.out)) hb); clear HO219; clear HB; have HO219 := n0_; have HB := n1_; clear n0_ n1_; (try clear hb); (try clear hb2); (try clear hk); (try clear hi)) | ((with_reducible refine gate_callee (f := 37) rfl ?_); refine goesL_ (some 15) rfl rfl Try.func37 (by kernel_rfl) rfl #[] rfl (by (try simp only [List.map_toArray, List.map_cons, List.map_nil]); first | done | rfl | (simp only [List.length_drop, List.length_take]; rfl)) ?_; (with_reducible refine (railplanlaw33_example.calls  t223 _ A3.out).mono ?_); rintro e w20 ⟨v224, rfl, ho0, hb⟩; refine ⟨_, rfl, ?_⟩; have n0_ := Aside0.mk (Kd.N_elder' (by (with_reducible repeat (first | apply Kd.N_alloc | apply Kd.N_drewN | apply Kd.N_drew)); exact HO219.out) (by first | exact Kd.N_base ho0 | exact Kd.S_base ho0 | exact Kd.R_base ho0 | exact Kd.Q_base ho0) hb); have n1_ := Aside0.mk (Kd.N_lower (Kd.N_mono (ok' := fun k_ => some k_ ≠ (.slice Ao18 t217.length co18 : Value).ownBlock) ho0 (fun k_ hk_ => (Kd.fresh' (Kd.N_lt (by (with_reducible repeat (first | apply Kd.N_alloc | apply Kd.N_drewN | apply Kd.N_drew)); exact HO219.out)) k_ hk_))) (below_size (by repeat (first | (with_reducible first | exact HB.out | apply below_alloc | apply pw_below_drewN | apply below_drew1) | exact HB.out)))); have n2_ := Aside0.mk (below_step (by repeat (first | (with_reducible first | exact HB.out | apply below_alloc | apply pw_below_drewN | apply below_drew1) | exact HB.out)) hb); clear HO219; clear HB; have HO219 := n0_; have HO225 := n1_; have HB := n2_; clear n0_ n1_ n2_; (try clear hb); (try clear hb2); (try clear hk); (try clear hi); (try clear ho0); obtain ⟨Ao21, co21, eo21⟩ := Kd.N_slice HO225.out; subst eo21) | ((with_reducible refine gate_callee (f := 15) rfl ?_); refine goesL_ (some 16) rfl rfl Try.func15 (by kernel_rfl) rfl #[.slice Ao21 t223.length co21, .int .i64 2] rfl (by (try simp only [List.map_toArray, List.map_cons, List.map_nil]); first | done | rfl | (simp only [List.length_drop, List.length_take]; rfl)) ?_; (with_reducible refine (maxplus_Power.calls k _ _ t223 2 t226 t227 _ ?side1 ?side2 A4.out).mono ?_); (case side1 => repeat (first | exact (Kd.N_reads' HO225.out).2.2 | (with_reducible refine Kd.C_alloc ?_ _) | (with_reducible refine Kd.C_drewN ?_ _) | (with_reducible refine Kd.C_drew ?_))); (case side2 => exact (Kd.N_reads' HO225.out).2.1); rintro e w22 ⟨v228, rfl, ho0, hb⟩; refine ⟨_, rfl, ?_⟩; have n0_ := Aside0.mk (Kd.N_elder' (by (with_reducible repeat (first | apply Kd.N_alloc | apply Kd.N_drewN | apply Kd.N_drew)); exact HO219.out) (by first | exact Kd.N_base ho0 | exact Kd.S_base ho0 | exact Kd.R_base ho0 | exact Kd.Q_base ho0) hb); have n1_ := Aside0.mk (Kd.N_elder' (by (with_reducible repeat (first | apply Kd.N_alloc | apply Kd.N_drewN | apply Kd.N_drew)); exact HO225.out) (by first | exact Kd.N_base ho0 | exact Kd.S_base ho0 | exact Kd.R_base ho0 | exact Kd.Q_base ho0) hb); have n2_ := Aside0.mk (Kd.N_lower (Kd.N_mono (ok' := fun k_ => some k_ ≠ (.slice Ao18 t217.length co18 : Value).ownBlock ∧ some k_ ≠ (.slice Ao21 t223.length co21 : Value).ownBlock) (Kd.S_N (Kd.S_bound ho0)) (fun k_ hk_ => ⟨(Kd.fresh' (Kd.N_lt (by (with_reducible repeat (first | apply Kd.N_alloc | apply Kd.N_drewN | apply Kd.N_drew)); exact HO219.out)) k_ hk_.2.1), (Kd.fresh' (Kd.N_lt (by (with_reducible repeat (first | apply Kd.N_alloc | apply Kd.N_drewN | apply Kd.N_drew)); exact HO225.out)) k_ hk_.2.1)⟩)) (below_size (by repeat (first | (with_reducible first | exact HB.out | apply below_alloc | apply pw_below_drewN | apply below_drew1) | exact HB.out)))); have n3_ := Aside0.mk (below_step (by repeat (first | (with_reducible first | exact HB.out | apply below_alloc | apply pw_below_drewN | apply below_drew1) | exact HB.out)) hb); clear HO219; clear HO225; clear HB; have HO219 := n0_; have HO225 := n1_; have HO229 := n2_; have HB := n3_; clear n0_ n1_ n2_ n3_; (try clear hb); (try clear hb2); (try clear hk); (try clear hi); (try clear ho0)) | ((with_reducible refine gate_callee (f := 37) rfl ?_); refine goesL_ (some 20) rfl rfl Try.func37 (by kernel_rfl) rfl #[] rfl (by (try simp only [List.map_toArray, List.map_cons, List.map_nil]); first | done | rfl | (simp only [List.length_drop, List.length_take]; rfl)) ?_; (with_reducible refine (railplanlaw33_example.calls  t230 _ A5.out).mono ?_); rintro e w23 ⟨v231, rfl, ho0, hb⟩; refine ⟨_, rfl, ?_⟩; have n0_ := Aside0.mk (Kd.N_elder' (by (with_reducible repeat (first | apply Kd.N_alloc | apply Kd.N_drewN | apply Kd.N_drew)); exact HO219.out) (by first | exact Kd.N_base ho0 | exact Kd.S_base ho0 | exact Kd.R_base ho0 | exact Kd.Q_base ho0) hb); have n1_ := Aside0.mk (Kd.N_elder' (by (with_reducible repeat (first | apply Kd.N_alloc | apply Kd.N_drewN | apply Kd.N_drew)); exact HO225.out) (by first | exact Kd.N_base ho0 | exact Kd.S_base ho0 | exact Kd.R_base ho0 | exact Kd.Q_base ho0) hb); have n2_ := Aside0.mk (Kd.N_elder' (by (with_reducible repeat (first | apply Kd.N_alloc | apply Kd.N_drewN | apply Kd.N_drew)); exact HO229.out) (by first | exact Kd.N_base ho0 | exact Kd.S_base ho0 | exact Kd.R_base ho0 | exact Kd.Q_base ho0) hb); have n3_ := Aside0.mk (Kd.N_lower (Kd.N_mono (ok' := fun k_ => some k_ ≠ (.slice Ao18 t217.length co18 : Value).ownBlock ∧ some k_ ≠ (.slice Ao21 t223.length co21 : Value).ownBlock ∧ some k_ ≠ (v228 : Value).ownBlock) ho0 (fun k_ hk_ => ⟨(Kd.fresh' (Kd.N_lt (by (with_reducible repeat (first | apply Kd.N_alloc | apply Kd.N_drewN | apply Kd.N_drew)); exact HO219.out)) k_ hk_), (Kd.fresh' (Kd.N_lt (by (with_reducible repeat (first | apply Kd.N_alloc | apply Kd.N_drewN | apply Kd.N_drew)); exact HO225.out)) k_ hk_), (Kd.fresh' (Kd.N_lt (by (with_reducible repeat (first | apply Kd.N_alloc | apply Kd.N_drewN | apply Kd.N_drew)); exact HO229.out)) k_ hk_)⟩)) (below_size (by repeat (first | (with_reducible first | exact HB.out | apply below_alloc | apply pw_below_drewN | apply below_drew1) | exact HB.out)))); have n4_ := Aside0.mk (below_step (by repeat (first | (with_reducible first | exact HB.out | apply below_alloc | apply pw_below_drewN | apply below_drew1) | exact HB.out)) hb); clear HO219; clear HO225; clear HO229; clear HB; have HO219 := n0_; have HO225 := n1_; have HO229 := n2_; have HO232 := n3_; have HB := n4_; clear n0_ n1_ n2_ n3_ n4_; (try clear hb); (try clear hb2); (try clear hk); (try clear hi); (try clear ho0)) | ((with_reducible refine gate_dst (N := 21) rfl ?_); (try (refine gate_guard (by rfl) ?_; dsimp only)); refine Kd.R_lit (Kd.int .i64) _ 3 ?hg (N := 21) ?hd (xs := ([2, 0] : List Int)) (inner := [.int .i64 2, .int .i64 0]) (ok := fun _ => True) (okp := fun _ => True) ?hr ?hp (fun _ hk => hk) trivial (Below.refl _ _) (Nat.le_refl _) (by simp) ?_; (case hd => rfl); (case hg => rfl); (case hr => first | (go_simp; done) | (go_simp; rfl)); (case hp => exact (Reps.one (show Kd.M (Kd.int .i64) _ _ _ 2 [.int .i64 2] from rfl) (Reps.one (show Kd.M (Kd.int .i64) _ _ _ 0 [.int .i64 0] from rfl) (Reps.none _ _)))); intro v234 w24 ho25 hb hg_ hnew_; clear hg_ hnew_; (first | rw [← Ny233.out] at ho25 | (simp only [Int.reduceToNat] at ho25; rw [← Ny233.out] at ho25)); have n0_ := Aside0.mk (Kd.N_elder' (by (with_reducible repeat (first | apply Kd.N_alloc | apply Kd.N_drewN | apply Kd.N_drew)); exact HO219.out) (by first | exact Kd.N_base ho25 | exact Kd.S_base ho25 | exact Kd.R_base ho25 | exact Kd.Q_base ho25) hb); have n1_ := Aside0.mk (Kd.N_elder' (by (with_reducible repeat (first | apply Kd.N_alloc | apply Kd.N_drewN | apply Kd.N_drew)); exact HO225.out) (by first | exact Kd.N_base ho25 | exact Kd.S_base ho25 | exact Kd.R_base ho25 | exact Kd.Q_base ho25) hb); have n2_ := Aside0.mk (Kd.N_elder' (by (with_reducible repeat (first | apply Kd.N_alloc | apply Kd.N_drewN | apply Kd.N_drew)); exact HO229.out) (by first | exact Kd.N_base ho25 | exact Kd.S_base ho25 | exact Kd.R_base ho25 | exact Kd.Q_base ho25) hb); have n3_ := Aside0.mk (Kd.N_elder' (by (with_reducible repeat (first | apply Kd.N_alloc | apply Kd.N_drewN | apply Kd.N_drew)); exact HO232.out) (by first | exact Kd.N_base ho25 | exact Kd.S_base ho25 | exact Kd.R_base ho25 | exact Kd.Q_base ho25) hb); have n4_ := Aside0.mk (Kd.R_lower ho25 (below_size (by repeat (first | (with_reducible first | exact HB.out | apply below_alloc | apply pw_below_drewN | apply below_drew1) | exact HB.out)))); have n5_ := Aside0.mk (below_step (by repeat (first | (with_reducible first | exact HB.out | apply below_alloc | apply pw_below_drewN | apply below_drew1) | exact HB.out)) hb); clear HO219; clear HO225; clear HO229; clear HO232; clear HB; have HO219 := n0_; have HO225 := n1_; have HO229 := n2_; have HO232 := n3_; have HO235 := n4_; have HB := n5_; clear n0_ n1_ n2_ n3_ n4_ n5_; clear hb ho25; obtain ⟨Ao26, co26, eo26⟩ := Kd.N_slice HO232.out; subst eo26; obtain ⟨Ao27, co27, eo27⟩ := Kd.R_slice HO235.out; subst eo27) | ((with_reducible refine gate_callee (f := 21) rfl ?_); refine goesL_ (some 22) rfl rfl Try.func21 (by kernel_rfl) rfl #[.slice Ao26 t230.length co26, .slice Ao27 y233.length co27, .int .i64 4, .int .i64 9] rfl (by (try simp only [List.map_toArray, List.map_cons, List.map_nil]); first | done | rfl | (simp only [List.length_drop, List.length_take]; rfl)) ?_; (with_reducible refine (maxplus_Recover.calls k _ _ t230 (fun k_ => some k_ = (.slice Ao27 y233.length co27 : Value).ownBlock) _ _ y233 4 9 t236 true _ ?side1 ?side2 ?side3 A6.out).mono ?_); (case side1 => repeat (first | exact (Kd.N_reads' HO232.out).2.2 | (with_reducible refine Kd.C_alloc ?_ _) | (with_reducible refine Kd.C_drewN ?_ _) | (with_reducible refine Kd.C_drew ?_))); (case side2 => exact (Kd.N_reads' HO232.out).2.1); (case side3 => exact Kd.R_V (Kd.R_tight rfl (Kd.R_apart' (Kd.R_apart' (Kd.R_apart' (Kd.R_apart' (HO235.out) (Kd.N_typed HO219.out) (by decide)) (Kd.N_typed HO225.out) (by decide)) (Kd.N_typed HO229.out) (by decide)) (Kd.N_typed HO232.out) (by decide)))); rintro e w28 ⟨rfl, hb⟩; refine ⟨_, rfl, ?_⟩; have n0_ := Aside0.mk (Kd.N_below (by (with_reducible repeat (first | apply Kd.N_alloc | apply Kd.N_drewN | apply Kd.N_drew)); exact HO219.out) hb); have n1_ := Aside0.mk (Kd.N_below (by (with_reducible repeat (first | apply Kd.N_alloc | apply Kd.N_drewN | apply Kd.N_drew)); exact HO225.out) hb); have n2_ := Aside0.mk (Kd.N_below (by (with_reducible repeat (first | apply Kd.N_alloc | apply Kd.N_drewN | apply Kd.N_drew)); exact HO229.out) hb); have n3_ := Aside0.mk (Kd.N_below (by (with_reducible repeat (first | apply Kd.N_alloc | apply Kd.N_drewN | apply Kd.N_drew)); exact HO232.out) hb); have n4_ := Aside0.mk (Kd.R_below (by (with_reducible repeat (first | apply Kd.R_alloc | apply Kd.R_drewN | apply Kd.R_drew)); exact HO235.out) hb); have n5_ := Aside0.mk (below_step (by repeat (first | (with_reducible first | exact HB.out | apply below_alloc | apply pw_below_drewN | apply below_drew1) | exact HB.out)) hb); clear HO219; clear HO225; clear HO229; clear HO232; clear HO235; clear HB; have HO219 := n0_; have HO225 := n1_; have HO229 := n2_; have HO232 := n3_; have HO235 := n4_; have HB := n5_; clear n0_ n1_ n2_ n3_ n4_ n5_; (try clear hb); (try clear hb2); (try clear hk); (try clear hi)) | ((with_reducible refine gate_dst (N := 40) rfl ?_); (try (refine gate_guard (by rfl) ?_; dsimp only)); refine Kd.R_lit (Kd.int .i64) _ 3 ?hg (N := 40) ?hd (xs := ([5, (-1125899906842624)] : List Int)) (inner := [.int .i64 5, .int .i64 (-1125899906842624)]) (ok := fun _ => True) (okp := fun _ => True) ?hr ?hp (fun _ hk => hk) trivial (Below.refl _ _) (Nat.le_refl _) (by simp) ?_; (case hd => rfl); (case hg => rfl); (case hr => first | (go_simp; done) | (go_simp; rfl)); (case hp => exact (Reps.one (show Kd.M (Kd.int .i64) _ _ _ 5 [.int .i64 5] from rfl) (Reps.one (show Kd.M (Kd.int .i64) _ _ _ (-1125899906842624) [.int .i64 (-1125899906842624)] from rfl) (Reps.none _ _)))); intro v239 w29 ho30 hb hg_ hnew_; clear hg_ hnew_; (first | rw [← Ny238.out] at ho30 | (simp only [Int.reduceToNat] at ho30; rw [← Ny238.out] at ho30)); have n0_ := Aside0.mk (Kd.N_elder' (by (with_reducible repeat (first | apply Kd.N_alloc | apply Kd.N_drewN | apply Kd.N_drew)); exact HO219.out) (by first | exact Kd.N_base ho30 | exact Kd.S_base ho30 | exact Kd.R_base ho30 | exact Kd.Q_base ho30) hb); have n1_ := Aside0.mk (Kd.N_elder' (by (with_reducible repeat (first | apply Kd.N_alloc | apply Kd.N_drewN | apply Kd.N_drew)); exact HO225.out) (by first | exact Kd.N_base ho30 | exact Kd.S_base ho30 | exact Kd.R_base ho30 | exact Kd.Q_base ho30) hb); have n2_ := Aside0.mk (Kd.N_elder' (by (with_reducible repeat (first | apply Kd.N_alloc | apply Kd.N_drewN | apply Kd.N_drew)); exact HO229.out) (by first | exact Kd.N_base ho30 | exact Kd.S_base ho30 | exact Kd.R_base ho30 | exact Kd.Q_base ho30) hb); have n3_ := Aside0.mk (Kd.N_elder' (by (with_reducible repeat (first | apply Kd.N_alloc | apply Kd.N_drewN | apply Kd.N_drew)); exact HO232.out) (by first | exact Kd.N_base ho30 | exact Kd.S_base ho30 | exact Kd.R_base ho30 | exact Kd.Q_base ho30) hb); have n4_ := Aside0.mk (Kd.R_elder' (by (with_reducible repeat (first | apply Kd.R_alloc | apply Kd.R_drewN | apply Kd.R_drew)); exact HO235.out) (by first | exact Kd.N_base ho30 | exact Kd.S_base ho30 | exact Kd.R_base ho30 | exact Kd.Q_base ho30) hb); have n5_ := Aside0.mk (Kd.R_lower (Kd.R_new' ho30 (Kd.R_lt (by (with_reducible repeat (first | apply Kd.R_alloc | apply Kd.R_drewN | apply Kd.R_drew)); exact HO235.out))) (below_size (by repeat (first | (with_reducible first | exact HB.out | apply below_alloc | apply pw_below_drewN | apply below_drew1) | exact HB.out)))); have n6_ := Aside0.mk (below_step (by repeat (first | (with_reducible first | exact HB.out | apply below_alloc | apply pw_below_drewN | apply below_drew1) | exact HB.out)) hb); clear HO219; clear HO225; clear HO229; clear HO232; clear HO235; clear HB; have HO219 := n0_; have HO225 := n1_; have HO229 := n2_; have HO232 := n3_; have HO235 := n4_; have HO240 := n5_; have HB := n6_; clear n0_ n1_ n2_ n3_ n4_ n5_ n6_; clear hb ho30) | ((with_reducible refine gate_dst (N := 41) rfl ?_); (try (refine gate_guard (by rfl) ?_; dsimp only)); refine Kd.R_lit (Kd.int .i64) _ 3 ?hg (N := 41) ?hd (xs := ([(-1125899906842624), 5] : List Int)) (inner := [.int .i64 (-1125899906842624), .int .i64 5]) (ok := fun _ => True) (okp := fun _ => True) ?hr ?hp (fun _ hk => hk) trivial (Below.refl _ _) (Nat.le_refl _) (by simp) ?_; (case hd => rfl); (case hg => rfl); (case hr => first | (go_simp; done) | (go_simp; rfl)); (case hp => exact (Reps.one (show Kd.M (Kd.int .i64) _ _ _ (-1125899906842624) [.int .i64 (-1125899906842624)] from rfl) (Reps.one (show Kd.M (Kd.int .i64) _ _ _ 5 [.int .i64 5] from rfl) (Reps.none _ _)))); intro v242 w31 ho32 hb hg_ hnew_; clear hg_ hnew_; (first | rw [← Ny241.out] at ho32 | (simp only [Int.reduceToNat] at ho32; rw [← Ny241.out] at ho32)); have n0_ := Aside0.mk (Kd.N_elder' (by (with_reducible repeat (first | apply Kd.N_alloc | apply Kd.N_drewN | apply Kd.N_drew)); exact HO219.out) (by first | exact Kd.N_base ho32 | exact Kd.S_base ho32 | exact Kd.R_base ho32 | exact Kd.Q_base ho32) hb); have n1_ := Aside0.mk (Kd.N_elder' (by (with_reducible repeat (first | apply Kd.N_alloc | apply Kd.N_drewN | apply Kd.N_drew)); exact HO225.out) (by first | exact Kd.N_base ho32 | exact Kd.S_base ho32 | exact Kd.R_base ho32 | exact Kd.Q_base ho32) hb); have n2_ := Aside0.mk (Kd.N_elder' (by (with_reducible repeat (first | apply Kd.N_alloc | apply Kd.N_drewN | apply Kd.N_drew)); exact HO229.out) (by first | exact Kd.N_base ho32 | exact Kd.S_base ho32 | exact Kd.R_base ho32 | exact Kd.Q_base ho32) hb); have n3_ := Aside0.mk (Kd.N_elder' (by (with_reducible repeat (first | apply Kd.N_alloc | apply Kd.N_drewN | apply Kd.N_drew)); exact HO232.out) (by first | exact Kd.N_base ho32 | exact Kd.S_base ho32 | exact Kd.R_base ho32 | exact Kd.Q_base ho32) hb); have n4_ := Aside0.mk (Kd.R_elder' (by (with_reducible repeat (first | apply Kd.R_alloc | apply Kd.R_drewN | apply Kd.R_drew)); exact HO235.out) (by first | exact Kd.N_base ho32 | exact Kd.S_base ho32 | exact Kd.R_base ho32 | exact Kd.Q_base ho32) hb); have n5_ := Aside0.mk (Kd.R_elder' (by (with_reducible repeat (first | apply Kd.R_alloc | apply Kd.R_drewN | apply Kd.R_drew)); exact HO240.out) (by first | exact Kd.N_base ho32 | exact Kd.S_base ho32 | exact Kd.R_base ho32 | exact Kd.Q_base ho32) hb); have n6_ := Aside0.mk (Kd.R_lower (Kd.R_new' (Kd.R_new' ho32 (Kd.R_lt (by (with_reducible repeat (first | apply Kd.R_alloc | apply Kd.R_drewN | apply Kd.R_drew)); exact HO235.out))) (Kd.R_lt (by (with_reducible repeat (first | apply Kd.R_alloc | apply Kd.R_drewN | apply Kd.R_drew)); exact HO240.out))) (below_size (by repeat (first | (with_reducible first | exact HB.out | apply below_alloc | apply pw_below_drewN | apply below_drew1) | exact HB.out)))); have n7_ := Aside0.mk (below_step (by repeat (first | (with_reducible first | exact HB.out | apply below_alloc | apply pw_below_drewN | apply below_drew1) | exact HB.out)) hb); clear HO219; clear HO225; clear HO229; clear HO232; clear HO235; clear HO240; clear HB; have HO219 := n0_; have HO225 := n1_; have HO229 := n2_; have HO232 := n3_; have HO235 := n4_; have HO240 := n5_; have HO243 := n6_; have HB := n7_; clear n0_ n1_ n2_ n3_ n4_ n5_ n6_ n7_; clear hb ho32; obtain ⟨Ao33, co33, eo33⟩ := Kd.R_slice HO240.out; subst eo33; obtain ⟨Ao34, co34, eo34⟩ := Kd.R_slice HO243.out; subst eo34) | ((with_reducible refine gate_dst (N := 42) rfl ?_); (try (refine gate_guard (by rfl) ?_; dsimp only)); refine Kd.N_lit (Kd.slice 3 (Kd.int .i64)) _ 22 ?hg (N' := 42) ?hd (xs := ([y238, y241] : List (List Int))) (inner := [.slice Ao33 y238.length co33, .slice Ao34 y241.length co34]) (ok := (fun k_ => some k_ ≠ (.slice Ao18 t217.length co18 : Value).ownBlock ∧ some k_ ≠ (.slice Ao21 t223.length co21 : Value).ownBlock ∧ some k_ ≠ (v228 : Value).ownBlock ∧ some k_ ≠ (.slice Ao26 t230.length co26 : Value).ownBlock ∧ some k_ ≠ (.slice Ao27 y233.length co27 : Value).ownBlock)) (okp := (fun k_ => some k_ ≠ (.slice Ao18 t217.length co18 : Value).ownBlock ∧ some k_ ≠ (.slice Ao21 t223.length co21 : Value).ownBlock ∧ some k_ ≠ (v228 : Value).ownBlock ∧ some k_ ≠ (.slice Ao26 t230.length co26 : Value).ownBlock ∧ some k_ ≠ (.slice Ao27 y233.length co27 : Value).ownBlock)) ?hr ?hp (fun _ hk => hk) ((show ∀ k_, w31.heap.size ≤ k_ → (fun k_ => some k_ ≠ (.slice Ao18 t217.length co18 : Value).ownBlock ∧ some k_ ≠ (.slice Ao21 t223.length co21 : Value).ownBlock ∧ some k_ ≠ (v228 : Value).ownBlock ∧ some k_ ≠ (.slice Ao26 t230.length co26 : Value).ownBlock ∧ some k_ ≠ (.slice Ao27 y233.length co27 : Value).ownBlock) k_ from fun k_ hk => ⟨Kd.fresh' (Kd.N_lt (by (with_reducible repeat (first | apply Kd.N_alloc | apply Kd.N_drewN | apply Kd.N_drew)); exact HO219.out)) k_ hk, Kd.fresh' (Kd.N_lt (by (with_reducible repeat (first | apply Kd.N_alloc | apply Kd.N_drewN | apply Kd.N_drew)); exact HO225.out)) k_ hk, Kd.fresh' (Kd.N_lt (by (with_reducible repeat (first | apply Kd.N_alloc | apply Kd.N_drewN | apply Kd.N_drew)); exact HO229.out)) k_ hk, Kd.fresh' (Kd.N_lt (by (with_reducible repeat (first | apply Kd.N_alloc | apply Kd.N_drewN | apply Kd.N_drew)); exact HO232.out)) k_ hk, Kd.fresh' (Kd.R_lt (by (with_reducible repeat (first | apply Kd.R_alloc | apply Kd.R_drewN | apply Kd.R_drew)); exact HO235.out)) k_ hk⟩) _ (Nat.le_refl _)) (Below.refl _ _) (Nat.le_refl _) (by simp) ?_; (case hd => rfl); (case hg => rfl); (case hr => first | (go_simp; done) | (go_simp; rfl)); (case hp => exact (Reps.one (show Kd.FK (Kd.slice 3 (Kd.int .i64)) _ _ y238 [.slice Ao33 y238.length co33] from (Kd.FK_slice_mk (Kd.R_reads' (Kd.R_mono (ok' := (fun k_ => some k_ ≠ (.slice Ao18 t217.length co18 : Value).ownBlock ∧ some k_ ≠ (.slice Ao21 t223.length co21 : Value).ownBlock ∧ some k_ ≠ (v228 : Value).ownBlock ∧ some k_ ≠ (.slice Ao26 t230.length co26 : Value).ownBlock ∧ some k_ ≠ (.slice Ao27 y233.length co27 : Value).ownBlock)) (Kd.R_apart' (Kd.R_apart' (Kd.R_apart' (Kd.R_apart' (HO240.out) (Kd.N_typed HO219.out) (by decide)) (Kd.N_typed HO225.out) (by decide)) (Kd.N_typed HO229.out) (by decide)) (Kd.N_typed HO232.out) (by decide)) (fun k_ hk => ⟨hk.1.1.1.2, ⟨hk.1.1.2, ⟨hk.1.2, ⟨hk.2, hk.1.1.1.1.1.2⟩⟩⟩⟩))).2.1 (Kd.R_F (Kd.R_mono (ok' := (fun k_ => some k_ ≠ (.slice Ao18 t217.length co18 : Value).ownBlock ∧ some k_ ≠ (.slice Ao21 t223.length co21 : Value).ownBlock ∧ some k_ ≠ (v228 : Value).ownBlock ∧ some k_ ≠ (.slice Ao26 t230.length co26 : Value).ownBlock ∧ some k_ ≠ (.slice Ao27 y233.length co27 : Value).ownBlock)) (Kd.R_apart' (Kd.R_apart' (Kd.R_apart' (Kd.R_apart' (HO240.out) (Kd.N_typed HO219.out) (by decide)) (Kd.N_typed HO225.out) (by decide)) (Kd.N_typed HO229.out) (by decide)) (Kd.N_typed HO232.out) (by decide)) (fun k_ hk => ⟨hk.1.1.1.2, ⟨hk.1.1.2, ⟨hk.1.2, ⟨hk.2, hk.1.1.1.1.1.2⟩⟩⟩⟩))))) (Reps.one (show Kd.FK (Kd.slice 3 (Kd.int .i64)) _ _ y241 [.slice Ao34 y241.length co34] from (Kd.FK_slice_mk (Kd.R_reads' (Kd.R_mono (ok' := (fun k_ => some k_ ≠ (.slice Ao18 t217.length co18 : Value).ownBlock ∧ some k_ ≠ (.slice Ao21 t223.length co21 : Value).ownBlock ∧ some k_ ≠ (v228 : Value).ownBlock ∧ some k_ ≠ (.slice Ao26 t230.length co26 : Value).ownBlock ∧ some k_ ≠ (.slice Ao27 y233.length co27 : Value).ownBlock)) (Kd.R_apart' (Kd.R_apart' (Kd.R_apart' (Kd.R_apart' (HO243.out) (Kd.N_typed HO219.out) (by decide)) (Kd.N_typed HO225.out) (by decide)) (Kd.N_typed HO229.out) (by decide)) (Kd.N_typed HO232.out) (by decide)) (fun k_ hk => ⟨hk.1.1.1.2, ⟨hk.1.1.2, ⟨hk.1.2, ⟨hk.2, hk.1.1.1.1.1.2⟩⟩⟩⟩))).2.1 (Kd.R_F (Kd.R_mono (ok' := (fun k_ => some k_ ≠ (.slice Ao18 t217.length co18 : Value).ownBlock ∧ some k_ ≠ (.slice Ao21 t223.length co21 : Value).ownBlock ∧ some k_ ≠ (v228 : Value).ownBlock ∧ some k_ ≠ (.slice Ao26 t230.length co26 : Value).ownBlock ∧ some k_ ≠ (.slice Ao27 y233.length co27 : Value).ownBlock)) (Kd.R_apart' (Kd.R_apart' (Kd.R_apart' (Kd.R_apart' (HO243.out) (Kd.N_typed HO219.out) (by decide)) (Kd.N_typed HO225.out) (by decide)) (Kd.N_typed HO229.out) (by decide)) (Kd.N_typed HO232.out) (by decide)) (fun k_ hk => ⟨hk.1.1.1.2, ⟨hk.1.1.2, ⟨hk.1.2, ⟨hk.2, hk.1.1.1.1.1.2⟩⟩⟩⟩))))) (Reps.none _ _)))); intro v245 w35 ho36 hb hg_ hnew_; clear hg_ hnew_; (first | rw [← Ny244.out] at ho36 | (simp only [Int.reduceToNat] at ho36; rw [← Ny244.out] at ho36)); have n0_ := Aside0.mk (Kd.N_elder' (by (with_reducible repeat (first | apply Kd.N_alloc | apply Kd.N_drewN | apply Kd.N_drew)); exact HO219.out) (by first | exact Kd.N_base ho36 | exact Kd.S_base ho36 | exact Kd.R_base ho36 | exact Kd.Q_base ho36) hb); have n1_ := Aside0.mk (Kd.N_elder' (by (with_reducible repeat (first | apply Kd.N_alloc | apply Kd.N_drewN | apply Kd.N_drew)); exact HO225.out) (by first | exact Kd.N_base ho36 | exact Kd.S_base ho36 | exact Kd.R_base ho36 | exact Kd.Q_base ho36) hb); have n2_ := Aside0.mk (Kd.N_elder' (by (with_reducible repeat (first | apply Kd.N_alloc | apply Kd.N_drewN | apply Kd.N_drew)); exact HO229.out) (by first | exact Kd.N_base ho36 | exact Kd.S_base ho36 | exact Kd.R_base ho36 | exact Kd.Q_base ho36) hb); have n3_ := Aside0.mk (Kd.N_elder' (by (with_reducible repeat (first | apply Kd.N_alloc | apply Kd.N_drewN | apply Kd.N_drew)); exact HO232.out) (by first | exact Kd.N_base ho36 | exact Kd.S_base ho36 | exact Kd.R_base ho36 | exact Kd.Q_base ho36) hb); have n4_ := Aside0.mk (Kd.R_below (by (with_reducible repeat (first | apply Kd.R_alloc | apply Kd.R_drewN | apply Kd.R_drew)); exact HO235.out) hb); have n5_ := Aside0.mk (Kd.N_lower ho36 (below_size (by repeat (first | (with_reducible first | exact HB.out | apply below_alloc | apply pw_below_drewN | apply below_drew1) | exact HB.out)))); have n6_ := Aside0.mk (below_step (by repeat (first | (with_reducible first | exact HB.out | apply below_alloc | apply pw_below_drewN | apply below_drew1) | exact HB.out)) hb); clear HO219; clear HO225; clear HO229; clear HO232; clear HO235; clear HB; clear HO240; clear HO243; have HO219 := n0_; have HO225 := n1_; have HO229 := n2_; have HO232 := n3_; have HO235 := n4_; have HO246 := n5_; have HB := n6_; clear n0_ n1_ n2_ n3_ n4_ n5_ n6_; clear hb ho36; obtain ⟨Ao37, co37, eo37⟩ := Kd.N_slice HO229.out; subst eo37; obtain ⟨Ao38, co38, eo38⟩ := Kd.N_slice HO246.out; subst eo38) | (go_at_call 18; (with_reducible refine (railplankeep_SameLists_int.calls k _ _ t226 _ _ y244 true _ ?side1 ?side2 ?side3 ?side4 A11.out).mono ?_); (case side1 => repeat (first | exact (Kd.N_reads' HO229.out).2.2 | (with_reducible refine Kd.C_alloc ?_ _) | (with_reducible refine Kd.C_drewN ?_ _) | (with_reducible refine Kd.C_drew ?_))); (case side2 => exact (Kd.N_reads' HO229.out).2.1); (case side3 => repeat (first | exact (Kd.N_reads' HO246.out).2.2 | (with_reducible refine Kd.C_alloc ?_ _) | (with_reducible refine Kd.C_drewN ?_ _) | (with_reducible refine Kd.C_drew ?_))); (case side4 => exact (Kd.N_reads' HO246.out).2.1); rintro e w' ⟨rfl, ⟨nd, rfl⟩⟩) | (go_at_call 37; (with_reducible refine (railplanlaw33_example.calls  t248 _ A15.out).mono ?_); rintro e w39 ⟨v249, rfl, ho0, hb⟩; have n0_ := Aside0.mk (Kd.N_elder' (by (with_reducible repeat (first | apply Kd.N_alloc | apply Kd.N_drewN | apply Kd.N_drew)); exact HO219.out) (by first | exact Kd.N_base ho0 | exact Kd.S_base ho0 | exact Kd.R_base ho0 | exact Kd.Q_base ho0) hb); have n1_ := Aside0.mk (Kd.N_elder' (by (with_reducible repeat (first | apply Kd.N_alloc | apply Kd.N_drewN | apply Kd.N_drew)); exact HO225.out) (by first | exact Kd.N_base ho0 | exact Kd.S_base ho0 | exact Kd.R_base ho0 | exact Kd.Q_base ho0) hb); have n2_ := Aside0.mk (Kd.N_elder' (by (with_reducible repeat (first | apply Kd.N_alloc | apply Kd.N_drewN | apply Kd.N_drew)); exact HO229.out) (by first | exact Kd.N_base ho0 | exact Kd.S_base ho0 | exact Kd.R_base ho0 | exact Kd.Q_base ho0) hb); have n3_ := Aside0.mk (Kd.N_elder' (by (with_reducible repeat (first | apply Kd.N_alloc | apply Kd.N_drewN | apply Kd.N_drew)); exact HO232.out) (by first | exact Kd.N_base ho0 | exact Kd.S_base ho0 | exact Kd.R_base ho0 | exact Kd.Q_base ho0) hb); have n4_ := Aside0.mk (Kd.R_below (by (with_reducible repeat (first | apply Kd.R_alloc | apply Kd.R_drewN | apply Kd.R_drew)); exact HO235.out) hb); have n5_ := Aside0.mk (Kd.N_elder' (by (with_reducible repeat (first | apply Kd.N_alloc | apply Kd.N_drewN | apply Kd.N_drew)); exact HO246.out) (by first | exact Kd.N_base ho0 | exact Kd.S_base ho0 | exact Kd.R_base ho0 | exact Kd.Q_base ho0) hb); have n6_ := Aside0.mk (Kd.N_lower (Kd.N_mono (ok' := fun k_ => some k_ ≠ (.slice Ao18 t217.length co18 : Value).ownBlock ∧ some k_ ≠ (.slice Ao21 t223.length co21 : Value).ownBlock ∧ some k_ ≠ (.slice Ao37 t226.length co37 : Value).ownBlock ∧ some k_ ≠ (.slice Ao26 t230.length co26 : Value).ownBlock ∧ some k_ ≠ (.slice Ao27 y233.length co27 : Value).ownBlock ∧ some k_ ≠ (.slice Ao38 y244.length co38 : Value).ownBlock) ho0 (fun k_ hk_ => ⟨(Kd.fresh' (Kd.N_lt (by (with_reducible repeat (first | apply Kd.N_alloc | apply Kd.N_drewN | apply Kd.N_drew)); exact HO219.out)) k_ hk_), (Kd.fresh' (Kd.N_lt (by (with_reducible repeat (first | apply Kd.N_alloc | apply Kd.N_drewN | apply Kd.N_drew)); exact HO225.out)) k_ hk_), (Kd.fresh' (Kd.N_lt (by (with_reducible repeat (first | apply Kd.N_alloc | apply Kd.N_drewN | apply Kd.N_drew)); exact HO229.out)) k_ hk_), (Kd.fresh' (Kd.N_lt (by (with_reducible repeat (first | apply Kd.N_alloc | apply Kd.N_drewN | apply Kd.N_drew)); exact HO232.out)) k_ hk_), (Kd.fresh' (Kd.R_lt (by (with_reducible repeat (first | apply Kd.R_alloc | apply Kd.R_drewN | apply Kd.R_drew)); exact HO235.out)) k_ hk_), (Kd.fresh' (Kd.N_lt (by (with_reducible repeat (first | apply Kd.N_alloc | apply Kd.N_drewN | apply Kd.N_drew)); exact HO246.out)) k_ hk_)⟩)) (below_size (by repeat (first | (with_reducible first | exact HB.out | apply below_alloc | apply pw_below_drewN | apply below_drew1) | exact HB.out)))); have n7_ := Aside0.mk (below_step (by repeat (first | (with_reducible first | exact HB.out | apply below_alloc | apply pw_below_drewN | apply below_drew1) | exact HB.out)) hb); clear HO219; clear HO225; clear HO229; clear HO232; clear HO235; clear HO246; clear HB; have HO219 := n0_; have HO225 := n1_; have HO229 := n2_; have HO232 := n3_; have HO235 := n4_; have HO246 := n5_; have HO250 := n6_; have HB := n7_; clear n0_ n1_ n2_ n3_ n4_ n5_ n6_ n7_; (try clear hb); (try clear hb2); (try clear hk); (try clear hi); (try clear ho0); obtain ⟨Ao40, co40, eo40⟩ := Kd.N_slice HO250.out; subst eo40) | (go_at_call 30; (with_reducible refine (maxplus_Check.calls k _ _ t248 t251 _ ?side1 ?side2 A16.out).mono ?_); (case side1 => repeat (first | exact (Kd.N_reads' HO250.out).2.2 | (with_reducible refine Kd.C_alloc ?_ _) | (with_reducible refine Kd.C_drewN ?_ _) | (with_reducible refine Kd.C_drew ?_))); (case side2 => exact (Kd.N_reads' HO250.out).2.1); rintro e w' ⟨rfl, ⟨nd, rfl⟩⟩))
                go_ret
                exact ⟨by first | rfl | (simp [errW_none, errW_some] <;> rfl) | (simp [*, errW_none, errW_some] <;> rfl), by repeat (first | (with_reducible first | exact HB.out | apply below_alloc | apply pw_below_drewN | apply below_drew1) | exact HB.out)⟩
              · rw [if_neg c14] at H
                have c14b0 : (t236 == 1) = false := beq_eq_false_iff_ne.mpr c14
                have c14b1 : (t236 != 1) = true := bne_iff_ne.mpr c14
                exact absurd (Option.some.inj H) (by rw [hT.out]; decide)
            · replace c13 := Bool.eq_false_iff.mpr c13
              subst c13
              have H1 : (some false) = some r := by rw [if_neg (show ¬ (false = true) by decide)] at H; exact H
              clear H
              have H := H1
              clear H1
              exact absurd (Option.some.inj H) (by rw [hT.out]; decide)
          · replace c12 := Bool.eq_false_iff.mpr c12
            subst c12
            have H1 : (some false) = some r := by rw [if_neg (show ¬ (false = true) by decide)] at H; exact H
            clear H
            have H := H1
            clear H1
            exact absurd (Option.some.inj H) (by rw [hT.out]; decide)
        · rw [if_neg c10] at H
          have c10b0 : (t227 == 0) = false := beq_eq_false_iff_ne.mpr c10
          have c10b1 : (t227 != 0) = true := bne_iff_ne.mpr c10
          exact absurd (Option.some.inj H) (by rw [hT.out]; decide)
      · rw [if_neg c9] at H
        have c9b0 : (t221 == 2) = false := beq_eq_false_iff_ne.mpr c9
        have c9b1 : (t221 != 2) = true := bne_iff_ne.mpr c9
        exact absurd (Option.some.inj H) (by rw [hT.out]; decide)
    · rw [if_neg c8] at H
      have c8b0 : (t220 == 5) = false := beq_eq_false_iff_ne.mpr c8
      have c8b1 : (t220 != 5) = true := bne_iff_ne.mpr c8
      exact absurd (Option.some.inj H) (by rw [hT.out]; decide)
  · replace c7 := Bool.eq_false_iff.mpr c7
    subst c7
    have H1 : (some false) = some r := by rw [if_neg (show ¬ (false = true) by decide)] at H; exact H
    clear H
    have H := H1
    clear H1
    exact absurd (Option.some.inj H) (by rw [hT.out]; decide)

/-! ### maxplus_Apply: function 27 -/
mutual
def maxplus_Apply.j0 : Nat → List (List Int) → List Int → Bool → Option (List Int × Int)
  | 0, _, _, _ => none
  | k + 1, x0, x1, x22 => if x22 = true then (some (([] : List Int), 1)) else ((maxplus_matrix.f k (x1.length : Int) 1).bind fun t254 => (maxplus_Apply.l0 k x0 t254 x1 (x1.length : Int) 0))
def maxplus_Apply.l0 : Nat → List (List Int) → List (List Int) → List Int → Int → Int → Option (List Int × Int)
  | 0, _, _, _, _, _ => none
  | k + 1, x0, x6, x26, x27, x28 => if x28 < x27 then (if 0 ≤ x28 then (if x28 < (x26.length : Int) then (if x28 < (x6.length : Int) then (if 0 < ((rd_L1 x6 x28).length : Int) then (maxplus_Apply.l0 k x0 (x6.set (x28 : Int).toNat ((rd_L1 x6 x28).set (0 : Int).toNat (rd x26 x28))) x26 x27 (wrap64 (x28 + 1))) else (none)) else (none)) else (none)) else (none)) else ((maxplus_product.f k x0 x6).bind fun t262 => ((maxplus_fits.f k t262).bind fun t265 => (if t265 = true then (if 0 ≤ (t262.length : Int) then (if ((t262.length : Int) : Int).toNat ≤ 35184372088832 then (maxplus_Apply.l1 k (List.replicate ((t262.length : Int) : Int).toNat 0) t262 (t262.length : Int) 0) else (none)) else (none)) else (some (([] : List Int), 8)))))
def maxplus_Apply.l1 : Nat → List Int → List (List Int) → Int → Int → Option (List Int × Int)
  | 0, _, _, _, _ => none
  | k + 1, x10, x49, x50, x51 => if x51 < x50 then (if 0 ≤ x51 then (if x51 < (x49.length : Int) then (if 0 < ((rd_L1 x49 x51).length : Int) then (if x51 < (x10.length : Int) then (maxplus_Apply.l1 k (x10.set (x51 : Int).toNat (rd (rd_L1 x49 x51) 0)) x49 x50 (wrap64 (x51 + 1))) else (none)) else (none)) else (none)) else (none)) else (some (x10, 0))
end
def maxplus_Apply.f (k : Nat) (l0 : List (List Int)) (l1 : List Int) : Option (List Int × Int) := (maxplus_Check.f k l0).bind fun t252 => (if t252 = true then ((maxplus_Vector.f k (l0.length : Int) l1).bind fun t253 => (maxplus_Apply.j0 k l0 l1 (!t253))) else (maxplus_Apply.j0 k l0 l1 true))
theorem maxplus_Apply.mono_l : ∀ k, (∀ y0 y1 y2, LeO (maxplus_Apply.j0 k y0 y1 y2) (maxplus_Apply.j0 (k + 1) y0 y1 y2)) ∧ (∀ y0 y1 y2 y3 y4, LeO (maxplus_Apply.l0 k y0 y1 y2 y3 y4) (maxplus_Apply.l0 (k + 1) y0 y1 y2 y3 y4)) ∧ (∀ y0 y1 y2 y3, LeO (maxplus_Apply.l1 k y0 y1 y2 y3) (maxplus_Apply.l1 (k + 1) y0 y1 y2 y3))
  | 0 => ⟨fun _ _ _ r h => by simp [maxplus_Apply.j0] at h, fun _ _ _ _ _ r h => by simp [maxplus_Apply.l0] at h, fun _ _ _ _ r h => by simp [maxplus_Apply.l1] at h⟩
  | k + 1 => by
    obtain ⟨ih0, ih1, ih2⟩ := maxplus_Apply.mono_l k
    refine ⟨?_, ?_, ?_⟩
    · intro y0 y1 y2
      unfold maxplus_Apply.j0
      repeat' first
      | (with_reducible exact ih0 _ _ _)
      | (with_reducible exact ih1 _ _ _ _ _)
      | (with_reducible exact ih2 _ _ _ _)
      | (with_reducible exact maxplus_Check.mono _ _)
      | (with_reducible exact maxplus_Vector.mono _ _ _)
      | (with_reducible exact maxplus_fits.mono _ _)
      | (with_reducible exact maxplus_matrix.mono _ _ _)
      | (with_reducible exact maxplus_product.mono _ _ _)
      | (with_reducible exact LeO.refl _)
      | (with_reducible exact LeO.none _)
      | (with_reducible refine LeO.ite ?_ ?_)
      | (with_reducible refine LeO.bind ?_ (fun _ => ?_))
      | exact ih0 _ _ _
      | exact ih1 _ _ _ _ _
      | exact ih2 _ _ _ _
      | exact maxplus_Check.mono _ _
      | exact maxplus_Vector.mono _ _ _
      | exact maxplus_fits.mono _ _
      | exact maxplus_matrix.mono _ _ _
      | exact maxplus_product.mono _ _ _
      | exact LeO.none _
      | refine LeO.ite ?_ ?_
      | refine LeO.bind ?_ (fun _ => ?_)
    · intro y0 y1 y2 y3 y4
      unfold maxplus_Apply.l0
      repeat' first
      | (with_reducible exact ih0 _ _ _)
      | (with_reducible exact ih1 _ _ _ _ _)
      | (with_reducible exact ih2 _ _ _ _)
      | (with_reducible exact maxplus_Check.mono _ _)
      | (with_reducible exact maxplus_Vector.mono _ _ _)
      | (with_reducible exact maxplus_fits.mono _ _)
      | (with_reducible exact maxplus_matrix.mono _ _ _)
      | (with_reducible exact maxplus_product.mono _ _ _)
      | (with_reducible exact LeO.refl _)
      | (with_reducible exact LeO.none _)
      | (with_reducible refine LeO.ite ?_ ?_)
      | (with_reducible refine LeO.bind ?_ (fun _ => ?_))
      | exact ih0 _ _ _
      | exact ih1 _ _ _ _ _
      | exact ih2 _ _ _ _
      | exact maxplus_Check.mono _ _
      | exact maxplus_Vector.mono _ _ _
      | exact maxplus_fits.mono _ _
      | exact maxplus_matrix.mono _ _ _
      | exact maxplus_product.mono _ _ _
      | exact LeO.none _
      | refine LeO.ite ?_ ?_
      | refine LeO.bind ?_ (fun _ => ?_)
    · intro y0 y1 y2 y3
      unfold maxplus_Apply.l1
      repeat' first
      | (with_reducible exact ih0 _ _ _)
      | (with_reducible exact ih1 _ _ _ _ _)
      | (with_reducible exact ih2 _ _ _ _)
      | (with_reducible exact maxplus_Check.mono _ _)
      | (with_reducible exact maxplus_Vector.mono _ _ _)
      | (with_reducible exact maxplus_fits.mono _ _)
      | (with_reducible exact maxplus_matrix.mono _ _ _)
      | (with_reducible exact maxplus_product.mono _ _ _)
      | (with_reducible exact LeO.refl _)
      | (with_reducible exact LeO.none _)
      | (with_reducible refine LeO.ite ?_ ?_)
      | (with_reducible refine LeO.bind ?_ (fun _ => ?_))
      | exact ih0 _ _ _
      | exact ih1 _ _ _ _ _
      | exact ih2 _ _ _ _
      | exact maxplus_Check.mono _ _
      | exact maxplus_Vector.mono _ _ _
      | exact maxplus_fits.mono _ _
      | exact maxplus_matrix.mono _ _ _
      | exact maxplus_product.mono _ _ _
      | exact LeO.none _
      | refine LeO.ite ?_ ?_
      | refine LeO.bind ?_ (fun _ => ?_)
theorem maxplus_Apply.mono : ∀ a0 a1 k, LeO (maxplus_Apply.f k a0 a1) (maxplus_Apply.f (k + 1) a0 a1) := by
  intro a0 a1 k
  obtain ⟨ih0, ih1, ih2⟩ := maxplus_Apply.mono_l k
  unfold maxplus_Apply.f
  repeat' first
      | (with_reducible exact ih0 _ _ _)
      | (with_reducible exact ih1 _ _ _ _ _)
      | (with_reducible exact ih2 _ _ _ _)
      | (with_reducible exact maxplus_Check.mono _ _)
      | (with_reducible exact maxplus_Vector.mono _ _ _)
      | (with_reducible exact maxplus_fits.mono _ _)
      | (with_reducible exact maxplus_matrix.mono _ _ _)
      | (with_reducible exact maxplus_product.mono _ _ _)
      | (with_reducible exact LeO.refl _)
      | (with_reducible exact LeO.none _)
      | (with_reducible refine LeO.ite ?_ ?_)
      | (with_reducible refine LeO.bind ?_ (fun _ => ?_))
      | exact ih0 _ _ _
      | exact ih1 _ _ _ _ _
      | exact ih2 _ _ _ _
      | exact maxplus_Check.mono _ _
      | exact maxplus_Vector.mono _ _ _
      | exact maxplus_fits.mono _ _
      | exact maxplus_matrix.mono _ _ _
      | exact maxplus_product.mono _ _ _
      | exact LeO.none _
      | refine LeO.ite ?_ ?_
      | refine LeO.bind ?_ (fun _ => ?_)
set_option maxHeartbeats 8000000 in
set_option maxRecDepth 100000 in
theorem maxplus_Apply.calls (k : Nat) (A0 : Option Addr) (c0 : Nat) (l0 : List (List Int)) (A1 : Option Addr) (c1 : Nat) (l1 : List Int) (r1 : List Int) (r2 : Int) (w : World) (hr0 : Kd.C (Kd.slice 3 (Kd.int .i64)) w A0 l0.length l0) (hc0 : l0.length ≤ c0) (hr1 : Kd.C (Kd.int .i64) w A1 l1.length l1) (hc1 : l1.length ≤ c1) (h : maxplus_Apply.f k l0 l1 = some (r1, r2)) :
    Calls Try.prog 27 #[.slice A0 l0.length c0, .slice A1 l1.length c1] w fun e w' => ∃ v0_ : Value, e = .returned (.tuple #[v0_, .int .i64 r2]) ∧ Kd.R (Kd.int .i64) 3 w' w.heap.size (fun _ => True) v0_ r1 ∧ Below w.heap.size w w' := by
  have HR0 := Aside0.mk hr0
  have HC0 := Aside0.mk hc0
  clear hr0 hc0
  have HR1 := Aside0.mk hr1
  have HC1 := Aside0.mk hc1
  clear hr1 hc1
  have HB := Aside0.mk (Below.refl w.heap.size w)
  have H : ((maxplus_Check.f k l0).bind fun t252 => (if t252 = true then ((maxplus_Vector.f k (l0.length : Int) l1).bind fun t253 => (maxplus_Apply.j0 k l0 l1 (!t253))) else (maxplus_Apply.j0 k l0 l1 true))) = some (r1, r2) := h
  clear h
  have HC3 := Aside0.mk H
  clear H
  go_enter Try.func27, Try.ntmps27
  go_upto_region 1 with (fail)
  go_cut [22] (fun v22 wc => ∃ (kq : Nat) (x22_2 : Bool), v22 = .bool x22_2 ∧ Aside0 (maxplus_Apply.j0 kq l0 l1 x22_2 = some (r1, r2)) ∧ Aside0 (kq ≤ k) ∧ Aside0 (Below w.heap.size w wc))
  case first =>
    have H := HC3.out
    clear HC3
    replace H := Option.bind_eq_some_iff.mp H
    obtain ⟨t252, A40, H⟩ := H
    replace H : (if t252 = true then ((maxplus_Vector.f k (l0.length : Int) l1).bind fun t253 => (maxplus_Apply.j0 k l0 l1 (!t253))) else (maxplus_Apply.j0 k l0 l1 true)) = some (r1, r2) := H
    have A4 := Aside0.mk A40
    clear A40
    by_cases c5 : t252 = true
    · subst c5
      have H1 : ((maxplus_Vector.f k (l0.length : Int) l1).bind fun t253 => (maxplus_Apply.j0 k l0 l1 (!t253))) = some (r1, r2) := by rw [if_pos rfl] at H; exact H
      clear H
      have H := H1
      clear H1
      replace H := Option.bind_eq_some_iff.mp H
      obtain ⟨t253, A60, H⟩ := H
      replace H : (maxplus_Apply.j0 k l0 l1 (!t253)) = some (r1, r2) := H
      have A6 := Aside0.mk A60
      clear A60
      have H' := Aside0.mk H
      clear H
      go_wp2_with (first | ((with_reducible refine gate_callee (f := 30) rfl ?_); refine goesL_ (some 14) rfl rfl Try.func30 (by kernel_rfl) rfl #[.slice A0 l0.length c0] rfl (by (try simp only [List.map_toArray, List.map_cons, List.map_nil]); first | done | rfl | (simp only [List.length_drop, List.length_take]; rfl)) ?_; (with_reducible refine (maxplus_Check.calls k _ _ l0 true _ ?side1 ?side2 A4.out).mono ?_); (case side1 => repeat (first | exact (Kd.C_below HR0.out HB.out) | (with_reducible refine Kd.C_alloc ?_ _) | (with_reducible refine Kd.C_drewN ?_ _) | (with_reducible refine Kd.C_drew ?_))); (case side2 => exact HC0.out); rintro e w' ⟨rfl, ⟨nd, rfl⟩⟩; refine ⟨_, rfl, ?_⟩) | (go_at_call 32; (with_reducible refine (maxplus_Vector.calls k (l0.length : Int) _ _ l1 t253 _ ?side1 ?side2 A6.out).mono ?_); (case side1 => repeat (first | exact (Kd.C_below HR1.out (by repeat (first | (with_reducible first | exact HB.out | apply below_alloc | apply pw_below_drewN | apply below_drew1) | exact HB.out))) | (with_reducible refine Kd.C_alloc ?_ _) | (with_reducible refine Kd.C_drewN ?_ _) | (with_reducible refine Kd.C_drew ?_))); (case side2 => exact HC1.out); rintro e w' ⟨rfl, ⟨nd, rfl⟩⟩))
      go_meet
      case rel => exact ⟨_, (!t253), (by first | rfl | (simp; done) | (simp [*]; done)), H', ⟨by first | omega | exact Nat.le_refl _⟩, ⟨by repeat (first | (with_reducible first | exact HB.out | apply below_alloc | apply pw_below_drewN | apply below_drew1) | exact HB.out)⟩⟩
    · replace c5 := Bool.eq_false_iff.mpr c5
      subst c5
      have H1 : (maxplus_Apply.j0 k l0 l1 true) = some (r1, r2) := by rw [if_neg (show ¬ (false = true) by decide)] at H; exact H
      clear H
      have H := H1
      clear H1
      have H' := Aside0.mk H
      clear H
      go_wp2_with (first | ((with_reducible refine gate_callee (f := 30) rfl ?_); refine goesL_ (some 14) rfl rfl Try.func30 (by kernel_rfl) rfl #[.slice A0 l0.length c0] rfl (by (try simp only [List.map_toArray, List.map_cons, List.map_nil]); first | done | rfl | (simp only [List.length_drop, List.length_take]; rfl)) ?_; (with_reducible refine (maxplus_Check.calls k _ _ l0 false _ ?side1 ?side2 A4.out).mono ?_); (case side1 => repeat (first | exact (Kd.C_below HR0.out HB.out) | (with_reducible refine Kd.C_alloc ?_ _) | (with_reducible refine Kd.C_drewN ?_ _) | (with_reducible refine Kd.C_drew ?_))); (case side2 => exact HC0.out); rintro e w' ⟨rfl, ⟨nd, rfl⟩⟩; refine ⟨_, rfl, ?_⟩))
      go_meet
      case rel => exact ⟨_, (true), (by first | rfl | (simp; done) | (simp [*]; done)), H', ⟨by first | omega | exact Nat.le_refl _⟩, ⟨by repeat (first | (with_reducible first | exact HB.out | apply below_alloc | apply pw_below_drewN | apply below_drew1) | exact HB.out)⟩⟩
  case rest =>
    clear HC3
    try clear c1
    try clear c2
    try clear p2
    try clear c3
    try clear c5
    obtain ⟨kq, x22_2, rfl, HA, HJ2, HB⟩ := hcut
    cases kq with
    | zero => exact absurd HA.out (by simp [maxplus_Apply.j0])
    | succ kj2 =>
      have H := HA.out
      clear HA
      simp only [maxplus_Apply.j0] at H
      by_cases c7 : x22_2 = true
      · subst c7
        have H1 : (some (([] : List Int), 1)) = some (r1, r2) := by rw [if_pos rfl] at H; exact H
        clear H
        have H := H1
        clear H1
        simp only [Option.some.injEq, Prod.mk.injEq] at H
        obtain ⟨rfl, rfl⟩ := H
        go_wp2
        go_ret2
        exact ⟨_, by first | rfl | (simp [errW_none, errW_some] <;> rfl) | (simp [*, errW_none, errW_some] <;> rfl), by first | exact Kd.R_nil _ _ _ _ _ | exact Kd.N_nil _ _ _ _ _ | exact Kd.V_nil _ _ _ _ _ | exact Kd.Q_nil _ _ _ _ _ | exact Kd.S_nil _ _ _ _ _, by repeat (first | (with_reducible first | exact HB.out | apply below_alloc | apply pw_below_drewN | apply below_drew1) | exact HB.out)⟩
      · replace c7 := Bool.eq_false_iff.mpr c7
        subst c7
        have H1 : ((maxplus_matrix.f kj2 (l1.length : Int) 1).bind fun t254 => (maxplus_Apply.l0 kj2 l0 t254 l1 (l1.length : Int) 0)) = some (r1, r2) := by rw [if_neg (show ¬ (false = true) by decide)] at H; exact H
        clear H
        have H := H1
        clear H1
        replace H := Option.bind_eq_some_iff.mp H
        obtain ⟨t254, A80, H⟩ := H
        replace H : (maxplus_Apply.l0 kj2 l0 t254 l1 (l1.length : Int) 0) = some (r1, r2) := H
        have A8 := Aside0.mk A80
        clear A80
        have H' := Aside0.mk H
        clear H
        go_wp2_with (first | ((with_reducible refine gate_callee (f := 41) rfl ?_); refine goesL_ (some 25) rfl rfl Try.func41 (by kernel_rfl) rfl #[.int .i64 (l1.length : Int), .int .i64 1] rfl (by (try simp only [List.map_toArray, List.map_cons, List.map_nil]); first | done | rfl | (simp only [List.length_drop, List.length_take]; rfl)) ?_; (with_reducible refine (maxplus_matrix.calls kj2 (l1.length : Int) 1 t254 _ A8.out).mono ?_); rintro e w9 ⟨v255, rfl, ho0, hb⟩; refine ⟨_, rfl, ?_⟩; have n0_ := Aside0.mk (Kd.S_lower ho0 (below_size (by repeat (first | (with_reducible first | exact HB.out | apply below_alloc | apply pw_below_drewN | apply below_drew1) | exact HB.out)))); have n1_ := Aside0.mk (below_step (by repeat (first | (with_reducible first | exact HB.out | apply below_alloc | apply pw_below_drewN | apply below_drew1) | exact HB.out)) hb); clear HB; have HO256 := n0_; have HB := n1_; clear n0_ n1_; (try clear hb); (try clear hb2); (try clear hk); (try clear hi); (try clear ho0)))
        go_loopg [28] kj2 (fun kq v28 w' => ∃ (x6_2 : List (List Int)) (x28_2 : Int), v28 = .int .i64 x28_2 ∧ Aside0 (maxplus_Apply.l0 kq l0 x6_2 l1 (l1.length : Int) x28_2 = some (r1, r2)) ∧ Aside0 (kq ≤ kj2) ∧ Aside0 (Kd.S (Kd.slice 3 (Kd.int .i64)) 22 w' w.heap.size (fun _ => True) v255 x6_2) ∧ Aside0 (Below w.heap.size w w'))
        case atStart => exact ⟨(t254), (0), (by first | rfl | (simp; done) | (simp [*]; done)), H', ⟨Nat.le_refl _⟩, ⟨by (with_reducible repeat (first | apply Kd.S_alloc | apply Kd.S_drewN | apply Kd.S_drew)); exact HO256.out⟩, ⟨by repeat (first | (with_reducible first | exact HB.out | apply below_alloc | apply pw_below_drewN | apply below_drew1) | exact HB.out)⟩⟩
        case round =>
          clear H'
          try clear c1
          try clear c2
          try clear p2
          try clear c3
          try clear c4
          try clear c5
          try clear c7
          try clear p2
          obtain ⟨x6_2, x28_2, rfl, HA, HK2, HO_6, HB⟩ := hrel
          cases gk with
          | zero => exact absurd HA.out (by simp [maxplus_Apply.l0])
          | succ k2 =>
            have H := HA.out
            clear HA
            simp only [maxplus_Apply.l0] at H
            by_cases c10 : x28_2 < (l1.length : Int)
            · rw [if_pos c10] at H
              have c10b0 : decide (x28_2 < (l1.length : Int)) = true := decide_eq_true c10
              clear c10
              by_cases c11 : 0 ≤ x28_2
              · rw [if_pos c11] at H
                have c11b0 : decide (0 ≤ x28_2) = true := decide_eq_true c11
                clear c11
                by_cases c12 : x28_2 < (l1.length : Int)
                · rw [if_pos c12] at H
                  have c12b0 : decide (x28_2 < (l1.length : Int)) = true := decide_eq_true c12
                  clear c12
                  by_cases c13 : x28_2 < (x6_2.length : Int)
                  · rw [if_pos c13] at H
                    have c13b0 : decide (x28_2 < (x6_2.length : Int)) = true := decide_eq_true c13
                    clear c13
                    by_cases c14 : 0 < ((rd_L1 x6_2 x28_2).length : Int)
                    · rw [if_pos c14] at H
                      have c14b0 : decide (0 < ((rd_L1 x6_2 x28_2).length : Int)) = true := decide_eq_true c14
                      have c14b1 : decide (0 < (rd_L1 x6_2 x28_2).length) = true := decide_eq_true (by omega)
                      clear c14
                      obtain ⟨y259, hy259⟩ : ∃ y_ : List Int, y_ = ((rd_L1 x6_2 x28_2).set (0 : Int).toNat (rd l1 x28_2)) := ⟨_, rfl⟩
                      replace H : (maxplus_Apply.l0 k2 l0 (x6_2.set (x28_2 : Int).toNat y259) l1 (l1.length : Int) (wrap64 (x28_2 + 1))) = some (r1, r2) := by first | (rw [hy259]; with_reducible exact H) | (have H2_ := (Option.bind_some _ _).symm.trans H; rw [hy259]; with_reducible exact H2_) | (have H2_ := (Option.bind_some _ _).symm.trans H; with_reducible exact H2_) | with_reducible exact H | (rw [hy259]; exact H) | exact H
                      have Ny259 := Aside0.mk hy259
                      clear hy259
                      obtain ⟨y261, hy261⟩ : ∃ y_ : List (List Int), y_ = (x6_2.set (x28_2 : Int).toNat y259) := ⟨_, rfl⟩
                      replace H : (maxplus_Apply.l0 k2 l0 y261 l1 (l1.length : Int) (wrap64 (x28_2 + 1))) = some (r1, r2) := by first | (rw [hy261]; with_reducible exact H) | (have H2_ := (Option.bind_some _ _).symm.trans H; rw [hy261]; with_reducible exact H2_) | (have H2_ := (Option.bind_some _ _).symm.trans H; with_reducible exact H2_) | with_reducible exact H | (rw [hy261]; exact H) | exact H
                      have Ny261 := Aside0.mk hy261
                      clear hy261
                      have H' := Aside0.mk H
                      clear H
                      have p257 : 0 ≤ (x28_2 : Int) := of_decide_eq_true (by first | (with_reducible assumption) | assumption)
                      have q257 : x28_2 < (l1.length : Int) := of_decide_eq_true (by first | (with_reducible assumption) | assumption)
                      obtain ⟨ad257, e257, hx257_0⟩ := Kd.at_int HR1.out x28_2 p257 q257
                      cases e257
                      replace hx257_0 := (HB.out.cell (World.block_lt_of_cell? w _ hx257_0)).trans hx257_0
                      replace p257 := eq_true p257
                      replace q257 := eq_true q257
                      obtain ⟨Ao16, co16, eo16⟩ := Kd.S_slice HO_6.out
                      subst eo16
                      have p258 : 0 ≤ (x28_2 : Int) := of_decide_eq_true (by first | (with_reducible assumption) | assumption)
                      have q258 : x28_2 < (x6_2.length : Int) := of_decide_eq_true (by first | (with_reducible assumption) | assumption)
                      obtain ⟨ad258, A258_0, c258_0, e258, hx258_0, hl258_0, hi258_0⟩ := at_L1 (Kd.S_reads' HO_6.out).2.2 x28_2 p258 q258
                      cases e258
                      obtain ⟨ce258, hce258, hMe258, hcc258⟩ := Kd.S_get HO_6.out [] x28_2 p258 (by first | exact q258 | exact of_decide_eq_true (by first | (with_reducible assumption) | assumption) | (have e_ := (Kd.S_reads' HO_6.out).1; omega))
                      obtain ⟨ve258_0, rfl, ge258_0⟩ := hMe258
                      have hv258_0 := hcc258 0 _ rfl
                      rw [Nat.add_zero, show ((Kd.slice 3 (Kd.int .i64))).sz = 1 from rfl, Nat.mul_one] at hv258_0
                      replace hv258_0 := Option.some.inj (hv258_0.symm.trans hx258_0)
                      rw [hv258_0] at ge258_0
                      have HL258_0 := Aside0.mk (show Kd.R (Kd.int .i64) 3 _ _ _ _ (rd_L1 x6_2 x28_2) from ge258_0)
                      clear hv258_0 ge258_0
                      have HX258_0 := Aside0.mk hx258_0
                      clear hcc258 hce258
                      have HR258_0 := Aside0.mk hi258_0
                      have HC258_0 := Aside0.mk hl258_0
                      clear hi258_0 hl258_0
                      replace p258 := eq_true p258
                      replace q258 := eq_true q258
                      have p15 : 0 ≤ (0 : Int) := (by omega)
                      have q15 : (0 : Int) < (((rd_L1 x6_2 x28_2).length : Int) : Int) := of_decide_eq_true (by first | (with_reducible assumption) | assumption)
                      have qi15 : (0 < (rd_L1 x6_2 x28_2).length) = True := eq_true (by omega)
                      obtain ⟨go15, co15, eo15, gb15, gl15, cl15, HG15⟩ := Kd.R_form HL258_0.out (by omega)
                      (first | cases eo15 | (injection eo15 with ea_ en_ ec_; (first | subst ea_ | (injection ea_ with ea_; subst ea_)); subst ec_; clear en_))
                      have GB15 := Aside0.mk gb15
                      have GG15 := Aside0.mk HG15
                      clear gb15 gl15 HG15
                      obtain ⟨hx15_0, hf15_0⟩ := Kd.R_celln 0 HL258_0.out (0 : Int) p15 q15
                      (try rw [show ((0 : Int)).toNat = 0 from rfl] at hx15_0)
                      (try simp only [Nat.reduceMul, Nat.zero_mul, Nat.zero_add, Nat.reduceAdd] at hx15_0)
                      (try rw [show ((0 : Int)).toNat = 0 from rfl] at hf15_0)
                      (try simp only [Nat.reduceMul, Nat.zero_mul, Nat.zero_add, Nat.reduceAdd] at hf15_0)
                      replace p15 := eq_true p15
                      replace q15 := eq_true q15
                      have hq17 : (x28_2 : Int) < (x6_2.length : Int) := (by have h_ : (x28_2 : Int) < ((x6_2.length : Int) : Int) := of_decide_eq_true (by first | (with_reducible assumption) | assumption); first | exact h_ | (have e_ := (Kd.S_reads' HO_6.out).1; omega) | simpa only [List.length_set, List.length_set] using h_)
                      obtain ⟨oki17, ce17, hcl17, hM17, hcc17, hok17, hbk17⟩ := Kd.S_borrow HO_6.out [] (x28_2 : Int) (of_decide_eq_true (by first | (with_reducible assumption) | assumption)) hq17
                      obtain ⟨ve17_0, rfl, ge17_0⟩ := hM17
                      have hv17 := hcc17 0 _ rfl
                      rw [Nat.add_zero, show ((Kd.slice 3 (Kd.int .i64))).sz = 1 from rfl, Nat.mul_one] at hv17
                      replace hv17 := Option.some.inj (hv17.symm.trans HX258_0.out)
                      subst hv17
                      clear hcc17 hcl17
                      replace ge17_0 := (show Kd.R (Kd.int .i64) 3 _ _ _ _ (rd_L1 x6_2 x28_2) from ge17_0)
                      have HP17 := Kd.R_putg ge17_0 (0 : Int) (rd l1 x28_2)
                      go_wp2_with (first | ((with_reducible refine gate_store (t := 3) (p := 38) rfl ?_); refine store_event (t := 3) (p := 38) (v := ?vo_w18) (w1 := (wr.setCell ⟨go15, 0, none⟩ (.int .i64 (rd l1 x28_2)))) ?hg ?ho ?hn ?hr ?_; (case ho => rfl); (case hg => rfl); (case hn => rfl); (case hr => first | (go_simp; done) | (go_simp; rfl)); intro w18 hw; have hg : wr.grownBy w18 (some go15) := (by rw [hw]; exact HP17.2); have hz_ : Kd.R (Kd.int .i64) 3 w18 w.heap.size oki17 (.slice (some ⟨go15, 0, none⟩) (rd_L1 x6_2 x28_2).length c258_0) y259 := (by rw [hw, Ny259.out]; exact HP17.1); have hp_ : Kd.S (Kd.slice 3 (Kd.int .i64)) 22 w18 w.heap.size (fun _ => True) (.slice (some ad258) x6_2.length co16) y261 := (by rw [Ny261.out]; exact hbk17 hg (fun k_ e_ => by injection e_ with e_; subst e_; exact ge17_0.1 _ rfl) (Kd.M_row hz_)); have hm_ := Kd.R_mono hz_ hok17; clear HP17 hbk17; have n0_ := Aside0.mk (hp_); have n1_ := Aside0.mk ((by rw [hw]; exact below_set (HB.out) GB15.out : Below w.heap.size w w18)); have n2_ := Aside0.mk (hm_); have n3_ := Aside0.mk ((Kd.R_reads' hm_).2.1); clear HO_6; clear HB; clear HL258_0; have HO_6 := n0_; have HB := n1_; have HL272 := n2_; have HC260 := n3_; clear n0_ n1_ n2_ n3_; clear hg hw hp_ hz_ hm_ hok17))
                      go_roundg k2
                      case measure => have := HJ2.out; have := HK2.out; omega
                      case rel => exact ⟨(y261), (wrap64 (x28_2 + 1)), (by first | rfl | (simp; done) | (simp [*]; done)), H', ⟨by have := HJ2.out; have := HK2.out; omega⟩, ⟨by (with_reducible repeat (first | apply Kd.S_alloc | apply Kd.S_drewN | apply Kd.S_drew)); exact HO_6.out⟩, ⟨by repeat (first | (with_reducible first | exact HB.out | apply below_alloc | apply pw_below_drewN | apply below_drew1) | exact HB.out)⟩⟩
                    · rw [if_neg c14] at H
                      exact absurd H (by simp)
                  · rw [if_neg c13] at H
                    exact absurd H (by simp)
                · rw [if_neg c12] at H
                  exact absurd H (by simp)
              · rw [if_neg c11] at H
                exact absurd H (by simp)
            · rw [if_neg c10] at H
              have c10b0 : decide (x28_2 < (l1.length : Int)) = false := decide_eq_false c10
              clear c10
              replace H := Option.bind_eq_some_iff.mp H
              obtain ⟨t262, A190, H⟩ := H
              replace H : ((maxplus_fits.f k2 t262).bind fun t265 => (if t265 = true then (if 0 ≤ (t262.length : Int) then (if ((t262.length : Int) : Int).toNat ≤ 35184372088832 then (maxplus_Apply.l1 k2 (List.replicate ((t262.length : Int) : Int).toNat 0) t262 (t262.length : Int) 0) else (none)) else (none)) else (some (([] : List Int), 8)))) = some (r1, r2) := H
              have A19 := Aside0.mk A190
              clear A190
              replace H := Option.bind_eq_some_iff.mp H
              obtain ⟨t265, A200, H⟩ := H
              replace H : (if t265 = true then (if 0 ≤ (t262.length : Int) then (if ((t262.length : Int) : Int).toNat ≤ 35184372088832 then (maxplus_Apply.l1 k2 (List.replicate ((t262.length : Int) : Int).toNat 0) t262 (t262.length : Int) 0) else (none)) else (none)) else (some (([] : List Int), 8))) = some (r1, r2) := H
              have A20 := Aside0.mk A200
              clear A200
              by_cases c21 : t265 = true
              · subst c21
                have H1 : (if 0 ≤ (t262.length : Int) then (if ((t262.length : Int) : Int).toNat ≤ 35184372088832 then (maxplus_Apply.l1 k2 (List.replicate ((t262.length : Int) : Int).toNat 0) t262 (t262.length : Int) 0) else (none)) else (none)) = some (r1, r2) := by rw [if_pos rfl] at H; exact H
                clear H
                have H := H1
                clear H1
                by_cases c22 : 0 ≤ (t262.length : Int)
                · rw [if_pos c22] at H
                  have c22b0 := eq_true c22
                  have c22b1 : decide (0 ≤ (t262.length : Int)) = true := decide_eq_true c22
                  clear c22
                  by_cases c23 : ((t262.length : Int) : Int).toNat ≤ 35184372088832
                  · rw [if_pos c23] at H
                    have c23b0 := eq_true c23
                    have c23b1 : decide (((t262.length : Int) : Int).toNat ≤ 35184372088832) = true := decide_eq_true c23
                    clear c23
                    obtain ⟨y266, hy266⟩ : ∃ y_ : List Int, y_ = (List.replicate ((t262.length : Int) : Int).toNat 0) := ⟨_, rfl⟩
                    replace H : (maxplus_Apply.l1 k2 y266 t262 (t262.length : Int) 0) = some (r1, r2) := by first | (rw [hy266]; with_reducible exact H) | (have H2_ := (Option.bind_some _ _).symm.trans H; rw [hy266]; with_reducible exact H2_) | (have H2_ := (Option.bind_some _ _).symm.trans H; with_reducible exact H2_) | with_reducible exact H | (rw [hy266]; exact H) | exact H
                    have Ny266 := Aside0.mk hy266
                    clear hy266
                    have H' := Aside0.mk H
                    clear H
                    obtain ⟨Ao24, co24, eo24⟩ := Kd.S_slice HO_6.out
                    subst eo24
                    go_wp2_with (first | ((with_reducible refine gate_callee (f := 42) rfl ?_); refine goesL_ (some 42) rfl rfl Try.func42 (by kernel_rfl) rfl #[.slice A0 l0.length c0, .slice Ao24 x6_2.length co24] rfl (by (try simp only [List.map_toArray, List.map_cons, List.map_nil]); first | done | rfl | (simp only [List.length_drop, List.length_take]; rfl)) ?_; (with_reducible refine (maxplus_product.calls k2 _ _ l0 _ _ x6_2 t262 _ ?side1 ?side2 ?side3 ?side4 A19.out).mono ?_); (case side1 => repeat (first | exact (Kd.C_below HR0.out HB.out) | (with_reducible refine Kd.C_alloc ?_ _) | (with_reducible refine Kd.C_drewN ?_ _) | (with_reducible refine Kd.C_drew ?_))); (case side2 => exact HC0.out); (case side3 => repeat (first | exact (Kd.S_reads' HO_6.out).2.2 | (with_reducible refine Kd.C_alloc ?_ _) | (with_reducible refine Kd.C_drewN ?_ _) | (with_reducible refine Kd.C_drew ?_))); (case side4 => exact (Kd.S_reads' HO_6.out).2.1); rintro e w25 ⟨v263, rfl, ho0, hb⟩; refine ⟨_, rfl, ?_⟩; have n0_ := Aside0.mk (Kd.S_elder' (by (with_reducible repeat (first | apply Kd.S_alloc | apply Kd.S_drewN | apply Kd.S_drew)); exact HO_6.out) (by first | exact Kd.N_base ho0 | exact Kd.S_base ho0 | exact Kd.R_base ho0 | exact Kd.Q_base ho0) hb); have n1_ := Aside0.mk (Kd.S_lower (Kd.S_new' ho0 (Kd.S_lt (by (with_reducible repeat (first | apply Kd.S_alloc | apply Kd.S_drewN | apply Kd.S_drew)); exact HO_6.out))) (below_size (by repeat (first | (with_reducible first | exact HB.out | apply below_alloc | apply pw_below_drewN | apply below_drew1) | exact HB.out)))); have n2_ := Aside0.mk (below_step (by repeat (first | (with_reducible first | exact HB.out | apply below_alloc | apply pw_below_drewN | apply below_drew1) | exact HB.out)) hb); clear HO_6; clear HB; have HO_6 := n0_; have HO264 := n1_; have HB := n2_; clear n0_ n1_ n2_; (try clear hb); (try clear hb2); (try clear hk); (try clear hi); (try clear ho0); obtain ⟨Ao26, co26, eo26⟩ := Kd.S_slice HO264.out; subst eo26) | ((with_reducible refine gate_callee (f := 43) rfl ?_); refine goesL_ (some 44) rfl rfl Try.func43 (by kernel_rfl) rfl #[.slice Ao26 t262.length co26] rfl (by (try simp only [List.map_toArray, List.map_cons, List.map_nil]); first | done | rfl | (simp only [List.length_drop, List.length_take]; rfl)) ?_; (with_reducible refine (maxplus_fits.calls k2 _ _ t262 true _ ?side1 ?side2 A20.out).mono ?_); (case side1 => repeat (first | exact (Kd.S_reads' HO264.out).2.2 | (with_reducible refine Kd.C_alloc ?_ _) | (with_reducible refine Kd.C_drewN ?_ _) | (with_reducible refine Kd.C_drew ?_))); (case side2 => exact (Kd.S_reads' HO264.out).2.1); rintro e w' ⟨rfl, ⟨nd, rfl⟩⟩; refine ⟨_, rfl, ?_⟩) | ((with_reducible refine gate_dst (N := 48) rfl ?_); (try (refine gate_guard (by rfl) ?_; dsimp only)); refine Kd.R_make (Kd.int .i64) _ 3 rfl (N := 48) rfl 22 _ _ rfl (t262.length : Int) rfl rfl Try.underlying22 (.int .i64 0) 8 info3 rfl (by decide) (by omega) 0 (ok := fun _ => True) (okp := fun _ => True) rfl (fun _ hk => hk) trivial (of_decide_eq_true (by first | (with_reducible assumption) | assumption)) (Nat.le_trans (Nat.mul_le_mul_right _ (of_decide_eq_true (by first | (with_reducible assumption) | assumption) : (t262.length : Int).toNat ≤ 35184372088832)) (by omega)) (Below.refl _ _) (Nat.le_refl _) ?_; intro v267 w27 ho28 hb hg_ hnew_; clear hg_ hnew_; (first | rw [← Ny266.out] at ho28 | (simp only [Int.reduceToNat] at ho28; rw [← Ny266.out] at ho28)); have n0_ := Aside0.mk (Kd.S_elder' (by (with_reducible repeat (first | apply Kd.S_alloc | apply Kd.S_drewN | apply Kd.S_drew)); exact HO_6.out) (by first | exact Kd.N_base ho28 | exact Kd.S_base ho28 | exact Kd.R_base ho28 | exact Kd.Q_base ho28) hb); have n1_ := Aside0.mk (Kd.S_elder' (by (with_reducible repeat (first | apply Kd.S_alloc | apply Kd.S_drewN | apply Kd.S_drew)); exact HO264.out) (by first | exact Kd.N_base ho28 | exact Kd.S_base ho28 | exact Kd.R_base ho28 | exact Kd.Q_base ho28) hb); have n2_ := Aside0.mk (Kd.R_lower ho28 (below_size (by repeat (first | (with_reducible first | exact HB.out | apply below_alloc | apply pw_below_drewN | apply below_drew1) | exact HB.out)))); have n3_ := Aside0.mk (below_step (by repeat (first | (with_reducible first | exact HB.out | apply below_alloc | apply pw_below_drewN | apply below_drew1) | exact HB.out)) hb); clear HO_6; clear HO264; clear HB; have HO_6 := n0_; have HO264 := n1_; have HO268 := n2_; have HB := n3_; clear n0_ n1_ n2_ n3_; clear hb ho28))
                    go_loopg [51] k2 (fun kq v51 w' => ∃ (x10_3 : List Int) (x51_3 : Int), v51 = .int .i64 x51_3 ∧ Aside0 (maxplus_Apply.l1 kq x10_3 t262 (t262.length : Int) x51_3 = some (r1, r2)) ∧ Aside0 (kq ≤ k2) ∧ Aside0 (Kd.R (Kd.int .i64) 3 w' w.heap.size (fun _ => True) v267 x10_3) ∧ Aside0 (Kd.S (Kd.slice 3 (Kd.int .i64)) 22 w' w.heap.size (fun k_ => some k_ ≠ (v267 : Value).ownBlock) (.slice Ao26 t262.length co26) t262) ∧ Aside0 (Below w.heap.size w w'))
                    case atStart => exact ⟨(y266), (0), (by first | rfl | (simp; done) | (simp [*]; done)), H', ⟨Nat.le_refl _⟩, ⟨by (with_reducible repeat (first | apply Kd.R_alloc | apply Kd.R_drewN | apply Kd.R_drew)); exact HO268.out⟩, ⟨by (with_reducible repeat (first | apply Kd.S_alloc | apply Kd.S_drewN | apply Kd.S_drew)); exact Kd.S_mono HO264.out (fun _ hk => hk.2)⟩, ⟨by repeat (first | (with_reducible first | exact HB.out | apply below_alloc | apply pw_below_drewN | apply below_drew1) | exact HB.out)⟩⟩
                    case round =>
                      clear H'
                      try clear c1
                      try clear p1
                      try clear q1
                      try clear hx1
                      try clear qi1
                      try clear c2
                      try clear p2
                      try clear q2
                      try clear hx2
                      try clear c3
                      try clear c4
                      try clear c5
                      try clear p6
                      try clear c7
                      try clear c10
                      try clear c10b0
                      try clear c11
                      try clear c11b0
                      try clear c12
                      try clear c12b0
                      try clear c13
                      try clear c13b0
                      try clear c14
                      try clear c14b0
                      try clear c14b1
                      try clear p15
                      try clear q15
                      try clear hx15
                      try clear qi15
                      try clear hf15
                      try clear c17
                      try clear q17
                      try clear c21
                      try clear c22
                      try clear c22b0
                      try clear c22b1
                      try clear c23
                      try clear c23b0
                      try clear c23b1
                      try clear c25
                      try clear p25
                      try clear q25
                      try clear hx25
                      try clear c27
                      try clear hx15_0
                      try clear hx257_0
                      try clear hx258_0
                      try clear p15
                      try clear p2
                      try clear p257
                      try clear p258
                      try clear q15
                      try clear q257
                      try clear q258
                      obtain ⟨x10_3, x51_3, rfl, HA, HK3, HO_10, HO_49, HB⟩ := hrel
                      cases gk with
                      | zero => exact absurd HA.out (by simp [maxplus_Apply.l1])
                      | succ k3 =>
                        have H := HA.out
                        clear HA
                        simp only [maxplus_Apply.l1] at H
                        by_cases c29 : x51_3 < (t262.length : Int)
                        · rw [if_pos c29] at H
                          have c29b0 : decide (x51_3 < (t262.length : Int)) = true := decide_eq_true c29
                          clear c29
                          by_cases c30 : 0 ≤ x51_3
                          · rw [if_pos c30] at H
                            have c30b0 : decide (0 ≤ x51_3) = true := decide_eq_true c30
                            clear c30
                            by_cases c31 : x51_3 < (t262.length : Int)
                            · rw [if_pos c31] at H
                              have c31b0 : decide (x51_3 < (t262.length : Int)) = true := decide_eq_true c31
                              clear c31
                              by_cases c32 : 0 < ((rd_L1 t262 x51_3).length : Int)
                              · rw [if_pos c32] at H
                                have c32b0 : decide (0 < ((rd_L1 t262 x51_3).length : Int)) = true := decide_eq_true c32
                                have c32b1 : decide (0 < (rd_L1 t262 x51_3).length) = true := decide_eq_true (by omega)
                                clear c32
                                by_cases c33 : x51_3 < (x10_3.length : Int)
                                · rw [if_pos c33] at H
                                  have c33b0 : decide (x51_3 < (x10_3.length : Int)) = true := decide_eq_true c33
                                  clear c33
                                  obtain ⟨y271, hy271⟩ : ∃ y_ : List Int, y_ = (x10_3.set (x51_3 : Int).toNat (rd (rd_L1 t262 x51_3) 0)) := ⟨_, rfl⟩
                                  replace H : (maxplus_Apply.l1 k3 y271 t262 (t262.length : Int) (wrap64 (x51_3 + 1))) = some (r1, r2) := by first | (rw [hy271]; with_reducible exact H) | (have H2_ := (Option.bind_some _ _).symm.trans H; rw [hy271]; with_reducible exact H2_) | (have H2_ := (Option.bind_some _ _).symm.trans H; with_reducible exact H2_) | with_reducible exact H | (rw [hy271]; exact H) | exact H
                                  have Ny271 := Aside0.mk hy271
                                  clear hy271
                                  have H' := Aside0.mk H
                                  clear H
                                  have p269 : 0 ≤ (x51_3 : Int) := of_decide_eq_true (by first | (with_reducible assumption) | assumption)
                                  have q269 : x51_3 < (t262.length : Int) := of_decide_eq_true (by first | (with_reducible assumption) | assumption)
                                  obtain ⟨ad269, A269_0, c269_0, e269, hx269_0, hl269_0, hi269_0⟩ := at_L1 (Kd.S_reads' HO_49.out).2.2 x51_3 p269 q269
                                  cases e269
                                  obtain ⟨ce269, hce269, hMe269, hcc269⟩ := Kd.S_get HO_49.out [] x51_3 p269 (by first | exact q269 | exact of_decide_eq_true (by first | (with_reducible assumption) | assumption) | (have e_ := (Kd.S_reads' HO_49.out).1; omega))
                                  obtain ⟨ve269_0, rfl, ge269_0⟩ := hMe269
                                  have hv269_0 := hcc269 0 _ rfl
                                  rw [Nat.add_zero, show ((Kd.slice 3 (Kd.int .i64))).sz = 1 from rfl, Nat.mul_one] at hv269_0
                                  replace hv269_0 := Option.some.inj (hv269_0.symm.trans hx269_0)
                                  rw [hv269_0] at ge269_0
                                  have HL269_0 := Aside0.mk (show Kd.R (Kd.int .i64) 3 _ _ _ _ (rd_L1 t262 x51_3) from ge269_0)
                                  clear hv269_0 ge269_0
                                  have HX269_0 := Aside0.mk hx269_0
                                  clear hcc269 hce269
                                  have HR269_0 := Aside0.mk hi269_0
                                  have HC269_0 := Aside0.mk hl269_0
                                  clear hi269_0 hl269_0
                                  replace p269 := eq_true p269
                                  replace q269 := eq_true q269
                                  have p270 : 0 ≤ (0 : Int) := (by omega)
                                  have q270 : 0 < ((rd_L1 t262 x51_3).length : Int) := of_decide_eq_true (by first | (with_reducible assumption) | assumption)
                                  obtain ⟨ad270, e270, hx270_0⟩ := Kd.at_int (by repeat (first | (with_reducible exact HR269_0.out) | (with_reducible refine Kd.C_alloc ?_ _) | (with_reducible refine Kd.C_drewN ?_ _) | (with_reducible refine Kd.C_drew ?_) | exact HR269_0.out)) 0 p270 q270
                                  cases e270
                                  have qi270 : (0 < (rd_L1 t262 x51_3).length) = True := eq_true (by omega)
                                  (try rw [show ((0 : Int)).toNat = 0 from rfl] at hx270_0)
                                  (try rw [Addr.add_zero'] at hx270_0)
                                  replace p270 := eq_true p270
                                  replace q270 := eq_true q270
                                  have p34 : 0 ≤ (x51_3 : Int) := of_decide_eq_true (by first | (with_reducible assumption) | assumption)
                                  have q34 : (x51_3 : Int) < ((x10_3.length : Int) : Int) := of_decide_eq_true (by first | (with_reducible assumption) | assumption)
                                  obtain ⟨go34, co34, eo34, gb34, gl34, cl34, HG34⟩ := Kd.R_form HO_10.out (by omega)
                                  (first | cases eo34 | (injection eo34 with ea_ en_ ec_; (first | subst ea_ | (injection ea_ with ea_; subst ea_)); subst ec_; clear en_))
                                  have GB34 := Aside0.mk gb34
                                  have GG34 := Aside0.mk HG34
                                  clear gb34 gl34 HG34
                                  obtain ⟨hx34_0, hf34_0⟩ := Kd.R_celln 0 HO_10.out (x51_3 : Int) p34 q34
                                  replace p34 := eq_true p34
                                  replace q34 := eq_true q34
                                  have HP35 := Kd.R_putg HO_10.out (x51_3 : Int) (rd (rd_L1 t262 x51_3) 0)
                                  go_wp2_with (first | ((with_reducible refine gate_store (t := 3) (p := 61) rfl ?_); refine store_event (t := 3) (p := 61) (v := ?vo_w36) (w1 := (wr.setCell ⟨go34, (x51_3 : Int).toNat, none⟩ (.int .i64 (rd (rd_L1 t262 x51_3) 0)))) ?hg ?ho ?hn ?hr ?_; (case ho => rfl); (case hg => rfl); (case hn => rfl); (case hr => first | (go_simp; done) | (go_simp; rfl)); intro w36 hw; have hg : wr.grownBy w36 (some go34) := (by rw [hw]; exact HP35.2); have hp_ : Kd.R (Kd.int .i64) 3 w36 w.heap.size (fun _ => True) (.slice (some ⟨go34, 0, none⟩) x10_3.length co34) y271 := (by rw [hw, Ny271.out]; exact HP35.1); clear HP35; have n0_ := Aside0.mk (hp_); have n1_ := Aside0.mk (Kd.S_after (v := (.slice (some ⟨go34, 0, none⟩) x10_3.length co34)) (v1 := (.slice (some ⟨go34, 0, none⟩) x10_3.length co34)) (ok := (fun _ => True)) (by (with_reducible repeat (first | apply Kd.S_alloc | apply Kd.S_drewN | apply Kd.S_drew)); exact Kd.S_mono HO_49.out (fun _ hk => ⟨trivial, hk⟩)) hg (.inl rfl)); have n2_ := Aside0.mk (Kd.R_after (v := (.slice (some ⟨go34, 0, none⟩) x10_3.length co34)) (v1 := (.slice (some ⟨go34, 0, none⟩) x10_3.length co34)) (ok := (fun k_ => some k_ ≠ (.slice (some ad269) t262.length co26 : Value).ownBlock)) (by (with_reducible repeat (first | apply Kd.R_alloc | apply Kd.R_drewN | apply Kd.R_drew)); exact Kd.R_mono HL269_0.out (fun _ hk => ⟨hk.2, hk.1⟩)) hg (.inl rfl)); have n3_ := Aside0.mk ((by rw [hw]; exact below_set (HB.out) GB34.out : Below w.heap.size w w36)); clear HO_10; clear HO_49; clear HL269_0; clear HB; have HO_10 := n0_; have HO_49 := n1_; have HL269_0 := n2_; have HB := n3_; clear n0_ n1_ n2_ n3_; clear hg hw hp_))
                                  go_roundg k3
                                  case measure => have := HJ2.out; have := HK2.out; have := HK3.out; omega
                                  case rel => exact ⟨(y271), (wrap64 (x51_3 + 1)), (by first | rfl | (simp; done) | (simp [*]; done)), H', ⟨by have := HJ2.out; have := HK2.out; have := HK3.out; omega⟩, ⟨by (with_reducible repeat (first | apply Kd.R_alloc | apply Kd.R_drewN | apply Kd.R_drew)); exact HO_10.out⟩, ⟨by (with_reducible repeat (first | apply Kd.S_alloc | apply Kd.S_drewN | apply Kd.S_drew)); exact Kd.S_mono HO_49.out (fun _ hk => hk.2)⟩, ⟨by repeat (first | (with_reducible first | exact HB.out | apply below_alloc | apply pw_below_drewN | apply below_drew1) | exact HB.out)⟩⟩
                                · rw [if_neg c33] at H
                                  exact absurd H (by simp)
                              · rw [if_neg c32] at H
                                exact absurd H (by simp)
                            · rw [if_neg c31] at H
                              exact absurd H (by simp)
                          · rw [if_neg c30] at H
                            exact absurd H (by simp)
                        · rw [if_neg c29] at H
                          have c29b0 : decide (x51_3 < (t262.length : Int)) = false := decide_eq_false c29
                          clear c29
                          simp only [Option.some.injEq, Prod.mk.injEq] at H
                          obtain ⟨rfl, rfl⟩ := H
                          go_wp2
                          go_ret2
                          exact ⟨_, by first | rfl | (simp [errW_none, errW_some] <;> rfl) | (simp [*, errW_none, errW_some] <;> rfl), by (with_reducible repeat (first | apply Kd.R_alloc | apply Kd.R_drewN | apply Kd.R_drew)); exact HO_10.out, by repeat (first | (with_reducible first | exact HB.out | apply below_alloc | apply pw_below_drewN | apply below_drew1) | exact HB.out)⟩
                  · rw [if_neg c23] at H
                    exact absurd H (by simp)
                · rw [if_neg c22] at H
                  exact absurd H (by simp)
              · replace c21 := Bool.eq_false_iff.mpr c21
                subst c21
                have H1 : (some (([] : List Int), 8)) = some (r1, r2) := by rw [if_neg (show ¬ (false = true) by decide)] at H; exact H
                clear H
                have H := H1
                clear H1
                simp only [Option.some.injEq, Prod.mk.injEq] at H
                obtain ⟨rfl, rfl⟩ := H
                obtain ⟨Ao37, co37, eo37⟩ := Kd.S_slice HO_6.out
                subst eo37
                go_wp2_with (first | ((with_reducible refine gate_callee (f := 42) rfl ?_); refine goesL_ (some 42) rfl rfl Try.func42 (by kernel_rfl) rfl #[.slice A0 l0.length c0, .slice Ao37 x6_2.length co37] rfl (by (try simp only [List.map_toArray, List.map_cons, List.map_nil]); first | done | rfl | (simp only [List.length_drop, List.length_take]; rfl)) ?_; (with_reducible refine (maxplus_product.calls k2 _ _ l0 _ _ x6_2 t262 _ ?side1 ?side2 ?side3 ?side4 A19.out).mono ?_); (case side1 => repeat (first | exact (Kd.C_below HR0.out HB.out) | (with_reducible refine Kd.C_alloc ?_ _) | (with_reducible refine Kd.C_drewN ?_ _) | (with_reducible refine Kd.C_drew ?_))); (case side2 => exact HC0.out); (case side3 => repeat (first | exact (Kd.S_reads' HO_6.out).2.2 | (with_reducible refine Kd.C_alloc ?_ _) | (with_reducible refine Kd.C_drewN ?_ _) | (with_reducible refine Kd.C_drew ?_))); (case side4 => exact (Kd.S_reads' HO_6.out).2.1); rintro e w38 ⟨v263, rfl, ho0, hb⟩; refine ⟨_, rfl, ?_⟩; have n0_ := Aside0.mk (Kd.S_elder' (by (with_reducible repeat (first | apply Kd.S_alloc | apply Kd.S_drewN | apply Kd.S_drew)); exact HO_6.out) (by first | exact Kd.N_base ho0 | exact Kd.S_base ho0 | exact Kd.R_base ho0 | exact Kd.Q_base ho0) hb); have n1_ := Aside0.mk (Kd.S_lower (Kd.S_new' ho0 (Kd.S_lt (by (with_reducible repeat (first | apply Kd.S_alloc | apply Kd.S_drewN | apply Kd.S_drew)); exact HO_6.out))) (below_size (by repeat (first | (with_reducible first | exact HB.out | apply below_alloc | apply pw_below_drewN | apply below_drew1) | exact HB.out)))); have n2_ := Aside0.mk (below_step (by repeat (first | (with_reducible first | exact HB.out | apply below_alloc | apply pw_below_drewN | apply below_drew1) | exact HB.out)) hb); clear HO_6; clear HB; have HO_6 := n0_; have HO264 := n1_; have HB := n2_; clear n0_ n1_ n2_; (try clear hb); (try clear hb2); (try clear hk); (try clear hi); (try clear ho0); obtain ⟨Ao39, co39, eo39⟩ := Kd.S_slice HO264.out; subst eo39) | ((with_reducible refine gate_callee (f := 43) rfl ?_); refine goesL_ (some 44) rfl rfl Try.func43 (by kernel_rfl) rfl #[.slice Ao39 t262.length co39] rfl (by (try simp only [List.map_toArray, List.map_cons, List.map_nil]); first | done | rfl | (simp only [List.length_drop, List.length_take]; rfl)) ?_; (with_reducible refine (maxplus_fits.calls k2 _ _ t262 false _ ?side1 ?side2 A20.out).mono ?_); (case side1 => repeat (first | exact (Kd.S_reads' HO264.out).2.2 | (with_reducible refine Kd.C_alloc ?_ _) | (with_reducible refine Kd.C_drewN ?_ _) | (with_reducible refine Kd.C_drew ?_))); (case side2 => exact (Kd.S_reads' HO264.out).2.1); rintro e w' ⟨rfl, ⟨nd, rfl⟩⟩; refine ⟨_, rfl, ?_⟩))
                go_ret2
                exact ⟨_, by first | rfl | (simp [errW_none, errW_some] <;> rfl) | (simp [*, errW_none, errW_some] <;> rfl), by first | exact Kd.R_nil _ _ _ _ _ | exact Kd.N_nil _ _ _ _ _ | exact Kd.V_nil _ _ _ _ _ | exact Kd.Q_nil _ _ _ _ _ | exact Kd.S_nil _ _ _ _ _, by repeat (first | (with_reducible first | exact HB.out | apply below_alloc | apply pw_below_drewN | apply below_drew1) | exact HB.out)⟩

end Go.Proofs.Ytnmhdeibjglhcaa.XMaxplusAssociative
