-- This session's own text, written by wip/tools/xall.py after the form of the kit's print.
import Derived.Test.YtnmhdeibjglhcaaXAllx0
import Derived.Test.YtnmhdeibjglhcaaXAllx2
import Derived.Test.YtnmhdeibjglhcaaXAllx5
import Derived.Test.YtnmhdeibjglhcaaXAllx6
import Derived.Test.YtnmhdeibjglhcaaXAllx7
import Derived.Test.YtnmhdeibjglhcaaXAllx8
namespace Go.Proofs.Ytnmhdeibjglhcaa.XAll
open Go.RowKit Go.Proofs.YtnmhdeibjglhcaaW.PrintWords Go.Proofs.YtnmhdeibjglhcaaW.PrintLast Go.Proofs.YtnmhdeibjglhcaaW.PrintMore
attribute [local go_sem] max2_int min2_int max_two min_two max_three min_three max_four min_four   -- for this text's walks alone
set_option linter.unusedVariables false
set_option linter.unusedSimpArgs false

/-! ### railplanlaw33_example: function 37 -/
def railplanlaw33_example.f  : Option ((List (List Int))) := some (([(([(-1125899906842624), 3] : List Int)), (([2, (-1125899906842624)] : List Int))] : List (List Int)))
set_option maxHeartbeats 8000000 in
set_option maxRecDepth 100000 in
theorem railplanlaw33_example.calls  (r : List (List Int)) (w : World) (h : railplanlaw33_example.f  = some r) :
  Calls Try.prog 37 #[] w fun e w' => ∃ v0_ : Value, e = .returned (v0_) ∧ Kd.N (Kd.slice 3 (Kd.int .i64)) 22 w' w.heap.size (fun k_ => (w.heap.size ≤ k_)) v0_ r ∧ Below w.heap.size w w' := by
 have HB := Aside0.mk (Below.refl w.heap.size w)
 have H : (some (([(([(-1125899906842624), 3] : List Int)), (([2, (-1125899906842624)] : List Int))] : List (List Int)))) = some r := h
 clear h
 obtain ⟨y208, hy208⟩ : ∃ y_ : List Int, y_ = (([(-1125899906842624), 3] : List Int)) := ⟨_, rfl⟩
 replace H : (some (([y208, (([2, (-1125899906842624)] : List Int))] : List (List Int)))) = some r := by first | (rw [hy208]; with_reducible exact H) | (have H2_ := (Option.bind_some _ _).symm.trans H; rw [hy208]; with_reducible exact H2_) | (have H2_ := (Option.bind_some _ _).symm.trans H; with_reducible exact H2_) | with_reducible exact H | (rw [hy208]; exact H) | exact H
 have Ny208 := Aside0.mk hy208
 clear hy208
 obtain ⟨y211, hy211⟩ : ∃ y_ : List Int, y_ = (([2, (-1125899906842624)] : List Int)) := ⟨_, rfl⟩
 replace H : (some (([y208, y211] : List (List Int)))) = some r := by first | (rw [hy211]; with_reducible exact H) | (have H2_ := (Option.bind_some _ _).symm.trans H; rw [hy211]; with_reducible exact H2_) | (have H2_ := (Option.bind_some _ _).symm.trans H; with_reducible exact H2_) | with_reducible exact H | (rw [hy211]; exact H) | exact H
 have Ny211 := Aside0.mk hy211
 clear hy211
 obtain ⟨y214, hy214⟩ : ∃ y_ : List (List Int), y_ = (([y208, y211] : List (List Int))) := ⟨_, rfl⟩
 replace H : (some y214) = some r := by first | (rw [hy214]; with_reducible exact H) | (have H2_ := (Option.bind_some _ _).symm.trans H; rw [hy214]; with_reducible exact H2_) | (have H2_ := (Option.bind_some _ _).symm.trans H; with_reducible exact H2_) | with_reducible exact H | (rw [hy214]; exact H) | exact H
 have Ny214 := Aside0.mk hy214
 clear hy214
 obtain rfl := Option.some.inj H
 go_enter Try.func37, Try.ntmps37
 go_wp2_with (first | ((with_reducible refine gate_dst (N := 1) rfl ?_); refine Kd.R_lit (Kd.int .i64) _ 3 ?hg (N := 1) ?hd (xs := ([(-1125899906842624), 3] : List Int)) (inner := [.int .i64 (-1125899906842624), .int .i64 3]) (ok := fun _ => True) (okp := fun _ => True) ?hr ?hp (fun _ hk => hk) trivial (Below.refl _ _) (Nat.le_refl _) (by simp) ?_; (case hd => rfl); (case hg => rfl); (case hr => first | (go_simp; done) | (go_simp; rfl)); (case hp => exact (Reps.one (show Kd.M (Kd.int .i64) _ _ _ (-1125899906842624) [.int .i64 (-1125899906842624)] from rfl) (Reps.one (show Kd.M (Kd.int .i64) _ _ _ 3 [.int .i64 3] from rfl) (Reps.none _ _)))); intro v209 w1 ho2 hb hg_ hnew_; clear hg_ hnew_; (first | rw [← Ny208.out] at ho2 | (simp only [Int.reduceToNat] at ho2; rw [← Ny208.out] at ho2)); have n0_ := Aside0.mk (Kd.R_lower (Kd.R_newM (M := fun k_ => (w.heap.size ≤ k_)) ho2 (below_size (by repeat (first | (with_reducible first | exact HB.out | apply below_alloc | apply pw_below_drewN | apply below_drew1) | exact HB.out))) (fun k_ h_ => h_)) (below_size (by repeat (first | (with_reducible first | exact HB.out | apply below_alloc | apply pw_below_drewN | apply below_drew1) | exact HB.out)))); have n1_ := Aside0.mk (below_step (by repeat (first | (with_reducible first | exact HB.out | apply below_alloc | apply pw_below_drewN | apply below_drew1) | exact HB.out)) hb); clear HB; have HO210 := n0_; have HB := n1_; clear n0_ n1_; clear hb ho2) | ((with_reducible refine gate_dst (N := 2) rfl ?_); refine Kd.R_lit (Kd.int .i64) _ 3 ?hg (N := 2) ?hd (xs := ([2, (-1125899906842624)] : List Int)) (inner := [.int .i64 2, .int .i64 (-1125899906842624)]) (ok := fun _ => True) (okp := fun _ => True) ?hr ?hp (fun _ hk => hk) trivial (Below.refl _ _) (Nat.le_refl _) (by simp) ?_; (case hd => rfl); (case hg => rfl); (case hr => first | (go_simp; done) | (go_simp; rfl)); (case hp => exact (Reps.one (show Kd.M (Kd.int .i64) _ _ _ 2 [.int .i64 2] from rfl) (Reps.one (show Kd.M (Kd.int .i64) _ _ _ (-1125899906842624) [.int .i64 (-1125899906842624)] from rfl) (Reps.none _ _)))); intro v212 w3 ho4 hb hg_ hnew_; clear hg_ hnew_; (first | rw [← Ny211.out] at ho4 | (simp only [Int.reduceToNat] at ho4; rw [← Ny211.out] at ho4)); have n0_ := Aside0.mk (Kd.R_elder' (by (with_reducible repeat (first | apply Kd.R_alloc | apply Kd.R_drewN | apply Kd.R_drew)); exact HO210.out) (by first | exact Kd.N_base ho4 | exact Kd.S_base ho4 | exact Kd.R_base ho4 | exact Kd.Q_base ho4) hb); have n1_ := Aside0.mk (Kd.R_lower (Kd.R_new' (Kd.R_newM (M := fun k_ => (w.heap.size ≤ k_)) ho4 (below_size (by repeat (first | (with_reducible first | exact HB.out | apply below_alloc | apply pw_below_drewN | apply below_drew1) | exact HB.out))) (fun k_ h_ => h_)) (Kd.R_lt (by (with_reducible repeat (first | apply Kd.R_alloc | apply Kd.R_drewN | apply Kd.R_drew)); exact HO210.out))) (below_size (by repeat (first | (with_reducible first | exact HB.out | apply below_alloc | apply pw_below_drewN | apply below_drew1) | exact HB.out)))); have n2_ := Aside0.mk (below_step (by repeat (first | (with_reducible first | exact HB.out | apply below_alloc | apply pw_below_drewN | apply below_drew1) | exact HB.out)) hb); clear HO210; clear HB; have HO210 := n0_; have HO213 := n1_; have HB := n2_; clear n0_ n1_ n2_; clear hb ho4; obtain ⟨Ao5, co5, eo5⟩ := Kd.R_slice HO210.out; subst eo5; obtain ⟨Ao6, co6, eo6⟩ := Kd.R_slice HO213.out; subst eo6) | ((with_reducible refine gate_dst (N := 3) rfl ?_); refine Kd.N_lit (Kd.slice 3 (Kd.int .i64)) _ 22 ?hg (N' := 3) ?hd (xs := ([y208, y211] : List (List Int))) (inner := [.slice Ao5 y208.length co5, .slice Ao6 y211.length co6]) (ok := (fun k_ => (w.heap.size ≤ k_))) (okp := (fun k_ => (w.heap.size ≤ k_))) ?hr ?hp (fun _ hk => hk) ((show ∀ k_, w3.heap.size ≤ k_ → (fun k_ => (w.heap.size ≤ k_)) k_ from fun k_ hk => (Nat.le_trans (below_size (by repeat (first | (with_reducible first | exact HB.out | apply below_alloc | apply pw_below_drewN | apply below_drew1) | exact HB.out))) hk)) _ (Nat.le_refl _)) (Below.refl _ _) (Nat.le_refl _) (by simp) ?_; (case hd => rfl); (case hg => rfl); (case hr => first | (go_simp; done) | (go_simp; rfl)); (case hp => exact (Reps.one (show Kd.FK (Kd.slice 3 (Kd.int .i64)) _ _ y208 [.slice Ao5 y208.length co5] from (Kd.FK_slice_mk (Kd.R_reads' (Kd.R_mono (ok' := (fun k_ => (w.heap.size ≤ k_))) (HO210.out) (fun k_ hk => hk.1.1))).2.1 (Kd.R_F (Kd.R_mono (ok' := (fun k_ => (w.heap.size ≤ k_))) (HO210.out) (fun k_ hk => hk.1.1))))) (Reps.one (show Kd.FK (Kd.slice 3 (Kd.int .i64)) _ _ y211 [.slice Ao6 y211.length co6] from (Kd.FK_slice_mk (Kd.R_reads' (Kd.R_mono (ok' := (fun k_ => (w.heap.size ≤ k_))) (HO213.out) (fun k_ hk => hk.1.1))).2.1 (Kd.R_F (Kd.R_mono (ok' := (fun k_ => (w.heap.size ≤ k_))) (HO213.out) (fun k_ hk => hk.1.1))))) (Reps.none _ _)))); intro v215 w7 ho8 hb hg_ hnew_; clear hg_ hnew_; (first | rw [← Ny214.out] at ho8 | (simp only [Int.reduceToNat] at ho8; rw [← Ny214.out] at ho8)); have n0_ := Aside0.mk (Kd.N_lower ho8 (below_size (by repeat (first | (with_reducible first | exact HB.out | apply below_alloc | apply pw_below_drewN | apply below_drew1) | exact HB.out)))); have n1_ := Aside0.mk (below_step (by repeat (first | (with_reducible first | exact HB.out | apply below_alloc | apply pw_below_drewN | apply below_drew1) | exact HB.out)) hb); clear HB; clear HO210; clear HO213; have HO216 := n0_; have HB := n1_; clear n0_ n1_; clear hb ho8))
 go_ret
 exact ⟨_, by first | rfl | (simp [errW_none, errW_some] <;> rfl) | (simp [*, errW_none, errW_some] <;> rfl), by (with_reducible repeat (first | apply Kd.N_alloc | apply Kd.N_drewN | apply Kd.N_drew)); exact HO216.out, by repeat (first | (with_reducible first | exact HB.out | apply below_alloc | apply pw_below_drewN | apply below_drew1) | exact HB.out)⟩

/-! ### railplanlaw33_awake: function 17 -/
def railplanlaw33_awake.f (k : Nat)  : Option (Bool) := (railplanlaw33_example.f).bind fun t217 => ((maxplus_Mean.f k t217).bind fun bt220 => ((railplanlaw33_example.f).bind fun t223 => ((maxplus_Power.f k t223 2).bind fun bt226 => ((railplanlaw33_example.f).bind fun t230 => ((maxplus_Recover.f k t230 (([2, 0] : List Int)) 4 9).bind fun bt236 => (if bt220.2.2 = true then (if bt220.1 = 5 then (if bt220.2.1 = 2 then (if bt226.2 = 0 then ((railplankeep_SameLists_int.f k bt226.1 (([(([5, (-1125899906842624)] : List Int)), (([(-1125899906842624), 5] : List Int))] : List (List Int)))).bind fun t247 => (if t247 = true then (if bt236.2 = true then (if bt236.1 = 1 then ((railplanlaw33_example.f).bind fun t248 => ((maxplus_Check.f k t248).bind fun t251 => (some t251))) else (some false)) else (some false)) else (some false))) else (some false)) else (some false)) else (some false)) else (some false)))))))
theorem railplanlaw33_awake.mono : ∀ k, LeO (railplanlaw33_awake.f k ) (railplanlaw33_awake.f (k + 1) ) := by
 intro  k
 unfold railplanlaw33_awake.f
 repeat' first
   | (with_reducible exact maxplus_Check.mono _ _)
   | (with_reducible exact maxplus_Mean.mono _ _)
   | (with_reducible exact maxplus_Power.mono _ _ _)
   | (with_reducible exact maxplus_Recover.mono _ _ _ _ _)
   | (with_reducible exact railplankeep_SameLists_int.mono _ _ _)
   | (with_reducible exact LeO.refl _)
   | (with_reducible exact LeO.none _)
   | (with_reducible refine LeO.ite ?_ ?_)
   | (with_reducible refine LeO.bind ?_ (fun _ => ?_))
   | exact maxplus_Check.mono _ _
   | exact maxplus_Mean.mono _ _
   | exact maxplus_Power.mono _ _ _
   | exact maxplus_Recover.mono _ _ _ _ _
   | exact railplankeep_SameLists_int.mono _ _ _
   | exact LeO.none _
   | refine LeO.ite ?_ ?_
   | refine LeO.bind ?_ (fun _ => ?_)
set_option maxHeartbeats 8000000 in
set_option maxRecDepth 100000 in
theorem railplanlaw33_awake.calls (k : Nat)  (r : Bool) (w : World) (h : railplanlaw33_awake.f k  = some r) (hT : Aside0 (r = true)) :
  Calls Try.prog 17 #[] w fun e w' => e = .returned (.bool r) ∧ Below w.heap.size w w' := by
 have HB := Aside0.mk (Below.refl w.heap.size w)
 have H : ((railplanlaw33_example.f).bind fun t217 => ((maxplus_Mean.f k t217).bind fun bt220 => ((railplanlaw33_example.f).bind fun t223 => ((maxplus_Power.f k t223 2).bind fun bt226 => ((railplanlaw33_example.f).bind fun t230 => ((maxplus_Recover.f k t230 (([2, 0] : List Int)) 4 9).bind fun bt236 => (if bt220.2.2 = true then (if bt220.1 = 5 then (if bt220.2.1 = 2 then (if bt226.2 = 0 then ((railplankeep_SameLists_int.f k bt226.1 (([(([5, (-1125899906842624)] : List Int)), (([(-1125899906842624), 5] : List Int))] : List (List Int)))).bind fun t247 => (if t247 = true then (if bt236.2 = true then (if bt236.1 = 1 then ((railplanlaw33_example.f).bind fun t248 => ((maxplus_Check.f k t248).bind fun t251 => (some t251))) else (some false)) else (some false)) else (some false))) else (some false)) else (some false)) else (some false)) else (some false)))))))) = some r := h
 clear h
 replace H := Option.bind_eq_some_iff.mp H
 obtain ⟨t217, A10, H⟩ := H
 replace H : ((maxplus_Mean.f k t217).bind fun bt220 => ((railplanlaw33_example.f).bind fun t223 => ((maxplus_Power.f k t223 2).bind fun bt226 => ((railplanlaw33_example.f).bind fun t230 => ((maxplus_Recover.f k t230 (([2, 0] : List Int)) 4 9).bind fun bt236 => (if bt220.2.2 = true then (if bt220.1 = 5 then (if bt220.2.1 = 2 then (if bt226.2 = 0 then ((railplankeep_SameLists_int.f k bt226.1 (([(([5, (-1125899906842624)] : List Int)), (([(-1125899906842624), 5] : List Int))] : List (List Int)))).bind fun t247 => (if t247 = true then (if bt236.2 = true then (if bt236.1 = 1 then ((railplanlaw33_example.f).bind fun t248 => ((maxplus_Check.f k t248).bind fun t251 => (some t251))) else (some false)) else (some false)) else (some false))) else (some false)) else (some false)) else (some false)) else (some false))))))) = some r := H
 have A1 := Aside0.mk A10
 clear A10
 replace H := Option.bind_eq_some_iff.mp H
 obtain ⟨⟨t220, t221, t222⟩, A20, H⟩ := H
 replace H : ((railplanlaw33_example.f).bind fun t223 => ((maxplus_Power.f k t223 2).bind fun bt226 => ((railplanlaw33_example.f).bind fun t230 => ((maxplus_Recover.f k t230 (([2, 0] : List Int)) 4 9).bind fun bt236 => (if t222 = true then (if t220 = 5 then (if t221 = 2 then (if bt226.2 = 0 then ((railplankeep_SameLists_int.f k bt226.1 (([(([5, (-1125899906842624)] : List Int)), (([(-1125899906842624), 5] : List Int))] : List (List Int)))).bind fun t247 => (if t247 = true then (if bt236.2 = true then (if bt236.1 = 1 then ((railplanlaw33_example.f).bind fun t248 => ((maxplus_Check.f k t248).bind fun t251 => (some t251))) else (some false)) else (some false)) else (some false))) else (some false)) else (some false)) else (some false)) else (some false)))))) = some r := H
 have A2 := Aside0.mk A20
 clear A20
 replace H := Option.bind_eq_some_iff.mp H
 obtain ⟨t223, A30, H⟩ := H
 replace H : ((maxplus_Power.f k t223 2).bind fun bt226 => ((railplanlaw33_example.f).bind fun t230 => ((maxplus_Recover.f k t230 (([2, 0] : List Int)) 4 9).bind fun bt236 => (if t222 = true then (if t220 = 5 then (if t221 = 2 then (if bt226.2 = 0 then ((railplankeep_SameLists_int.f k bt226.1 (([(([5, (-1125899906842624)] : List Int)), (([(-1125899906842624), 5] : List Int))] : List (List Int)))).bind fun t247 => (if t247 = true then (if bt236.2 = true then (if bt236.1 = 1 then ((railplanlaw33_example.f).bind fun t248 => ((maxplus_Check.f k t248).bind fun t251 => (some t251))) else (some false)) else (some false)) else (some false))) else (some false)) else (some false)) else (some false)) else (some false))))) = some r := H
 have A3 := Aside0.mk A30
 clear A30
 replace H := Option.bind_eq_some_iff.mp H
 obtain ⟨⟨t226, t227⟩, A40, H⟩ := H
 replace H : ((railplanlaw33_example.f).bind fun t230 => ((maxplus_Recover.f k t230 (([2, 0] : List Int)) 4 9).bind fun bt236 => (if t222 = true then (if t220 = 5 then (if t221 = 2 then (if t227 = 0 then ((railplankeep_SameLists_int.f k t226 (([(([5, (-1125899906842624)] : List Int)), (([(-1125899906842624), 5] : List Int))] : List (List Int)))).bind fun t247 => (if t247 = true then (if bt236.2 = true then (if bt236.1 = 1 then ((railplanlaw33_example.f).bind fun t248 => ((maxplus_Check.f k t248).bind fun t251 => (some t251))) else (some false)) else (some false)) else (some false))) else (some false)) else (some false)) else (some false)) else (some false)))) = some r := H
 have A4 := Aside0.mk A40
 clear A40
 replace H := Option.bind_eq_some_iff.mp H
 obtain ⟨t230, A50, H⟩ := H
 replace H : ((maxplus_Recover.f k t230 (([2, 0] : List Int)) 4 9).bind fun bt236 => (if t222 = true then (if t220 = 5 then (if t221 = 2 then (if t227 = 0 then ((railplankeep_SameLists_int.f k t226 (([(([5, (-1125899906842624)] : List Int)), (([(-1125899906842624), 5] : List Int))] : List (List Int)))).bind fun t247 => (if t247 = true then (if bt236.2 = true then (if bt236.1 = 1 then ((railplanlaw33_example.f).bind fun t248 => ((maxplus_Check.f k t248).bind fun t251 => (some t251))) else (some false)) else (some false)) else (some false))) else (some false)) else (some false)) else (some false)) else (some false))) = some r := H
 have A5 := Aside0.mk A50
 clear A50
 obtain ⟨y233, hy233⟩ : ∃ y_ : List Int, y_ = (([2, 0] : List Int)) := ⟨_, rfl⟩
 replace H : ((maxplus_Recover.f k t230 y233 4 9).bind fun bt236 => (if t222 = true then (if t220 = 5 then (if t221 = 2 then (if t227 = 0 then ((railplankeep_SameLists_int.f k t226 (([(([5, (-1125899906842624)] : List Int)), (([(-1125899906842624), 5] : List Int))] : List (List Int)))).bind fun t247 => (if t247 = true then (if bt236.2 = true then (if bt236.1 = 1 then ((railplanlaw33_example.f).bind fun t248 => ((maxplus_Check.f k t248).bind fun t251 => (some t251))) else (some false)) else (some false)) else (some false))) else (some false)) else (some false)) else (some false)) else (some false))) = some r := by first | (rw [hy233]; with_reducible exact H) | (have H2_ := (Option.bind_some _ _).symm.trans H; rw [hy233]; with_reducible exact H2_) | (have H2_ := (Option.bind_some _ _).symm.trans H; with_reducible exact H2_) | with_reducible exact H | (rw [hy233]; exact H) | exact H
 have Ny233 := Aside0.mk hy233
 clear hy233
 replace H := Option.bind_eq_some_iff.mp H
 obtain ⟨⟨t236, t237⟩, A60, H⟩ := H
 replace H : (if t222 = true then (if t220 = 5 then (if t221 = 2 then (if t227 = 0 then ((railplankeep_SameLists_int.f k t226 (([(([5, (-1125899906842624)] : List Int)), (([(-1125899906842624), 5] : List Int))] : List (List Int)))).bind fun t247 => (if t247 = true then (if t237 = true then (if t236 = 1 then ((railplanlaw33_example.f).bind fun t248 => ((maxplus_Check.f k t248).bind fun t251 => (some t251))) else (some false)) else (some false)) else (some false))) else (some false)) else (some false)) else (some false)) else (some false)) = some r := H
 have A6 := Aside0.mk A60
 clear A60
 by_cases c7 : t222 = true
 ·subst c7
  have H1 : (if t220 = 5 then (if t221 = 2 then (if t227 = 0 then ((railplankeep_SameLists_int.f k t226 (([(([5, (-1125899906842624)] : List Int)), (([(-1125899906842624), 5] : List Int))] : List (List Int)))).bind fun t247 => (if t247 = true then (if t237 = true then (if t236 = 1 then ((railplanlaw33_example.f).bind fun t248 => ((maxplus_Check.f k t248).bind fun t251 => (some t251))) else (some false)) else (some false)) else (some false))) else (some false)) else (some false)) else (some false)) = some r := by rw [if_pos rfl] at H; exact H
  clear H
  have H := H1
  clear H1
  by_cases c8 : t220 = 5
  ·rw [if_pos c8] at H
   have c8b0 : (t220 == 5) = true := beq_iff_eq.mpr c8
   have c8b1 : (t220 != 5) = false := bne_eq_false_iff_eq.mpr c8
   clear c8
   by_cases c9 : t221 = 2
   ·rw [if_pos c9] at H
    have c9b0 : (t221 == 2) = true := beq_iff_eq.mpr c9
    have c9b1 : (t221 != 2) = false := bne_eq_false_iff_eq.mpr c9
    clear c9
    by_cases c10 : t227 = 0
    ·rw [if_pos c10] at H
     have c10b0 : (t227 == 0) = true := beq_iff_eq.mpr c10
     have c10b1 : (t227 != 0) = false := bne_eq_false_iff_eq.mpr c10
     clear c10
     obtain ⟨y238, hy238⟩ : ∃ y_ : List Int, y_ = (([5, (-1125899906842624)] : List Int)) := ⟨_, rfl⟩
     replace H : ((railplankeep_SameLists_int.f k t226 (([y238, (([(-1125899906842624), 5] : List Int))] : List (List Int)))).bind fun t247 => (if t247 = true then (if t237 = true then (if t236 = 1 then ((railplanlaw33_example.f).bind fun t248 => ((maxplus_Check.f k t248).bind fun t251 => (some t251))) else (some false)) else (some false)) else (some false))) = some r := by first | (rw [hy238]; with_reducible exact H) | (have H2_ := (Option.bind_some _ _).symm.trans H; rw [hy238]; with_reducible exact H2_) | (have H2_ := (Option.bind_some _ _).symm.trans H; with_reducible exact H2_) | with_reducible exact H | (rw [hy238]; exact H) | exact H
     have Ny238 := Aside0.mk hy238
     clear hy238
     obtain ⟨y241, hy241⟩ : ∃ y_ : List Int, y_ = (([(-1125899906842624), 5] : List Int)) := ⟨_, rfl⟩
     replace H : ((railplankeep_SameLists_int.f k t226 (([y238, y241] : List (List Int)))).bind fun t247 => (if t247 = true then (if t237 = true then (if t236 = 1 then ((railplanlaw33_example.f).bind fun t248 => ((maxplus_Check.f k t248).bind fun t251 => (some t251))) else (some false)) else (some false)) else (some false))) = some r := by first | (rw [hy241]; with_reducible exact H) | (have H2_ := (Option.bind_some _ _).symm.trans H; rw [hy241]; with_reducible exact H2_) | (have H2_ := (Option.bind_some _ _).symm.trans H; with_reducible exact H2_) | with_reducible exact H | (rw [hy241]; exact H) | exact H
     have Ny241 := Aside0.mk hy241
     clear hy241
     obtain ⟨y244, hy244⟩ : ∃ y_ : List (List Int), y_ = (([y238, y241] : List (List Int))) := ⟨_, rfl⟩
     replace H : ((railplankeep_SameLists_int.f k t226 y244).bind fun t247 => (if t247 = true then (if t237 = true then (if t236 = 1 then ((railplanlaw33_example.f).bind fun t248 => ((maxplus_Check.f k t248).bind fun t251 => (some t251))) else (some false)) else (some false)) else (some false))) = some r := by first | (rw [hy244]; with_reducible exact H) | (have H2_ := (Option.bind_some _ _).symm.trans H; rw [hy244]; with_reducible exact H2_) | (have H2_ := (Option.bind_some _ _).symm.trans H; with_reducible exact H2_) | with_reducible exact H | (rw [hy244]; exact H) | exact H
     have Ny244 := Aside0.mk hy244
     clear hy244
     replace H := Option.bind_eq_some_iff.mp H
     obtain ⟨t247, A110, H⟩ := H
     replace H : (if t247 = true then (if t237 = true then (if t236 = 1 then ((railplanlaw33_example.f).bind fun t248 => ((maxplus_Check.f k t248).bind fun t251 => (some t251))) else (some false)) else (some false)) else (some false)) = some r := H
     have A11 := Aside0.mk A110
     clear A110
     by_cases c12 : t247 = true
     ·subst c12
      have H1 : (if t237 = true then (if t236 = 1 then ((railplanlaw33_example.f).bind fun t248 => ((maxplus_Check.f k t248).bind fun t251 => (some t251))) else (some false)) else (some false)) = some r := by rw [if_pos rfl] at H; exact H
      clear H
      have H := H1
      clear H1
      by_cases c13 : t237 = true
      ·subst c13
       have H1 : (if t236 = 1 then ((railplanlaw33_example.f).bind fun t248 => ((maxplus_Check.f k t248).bind fun t251 => (some t251))) else (some false)) = some r := by rw [if_pos rfl] at H; exact H
       clear H
       have H := H1
       clear H1
       by_cases c14 : t236 = 1
       ·rw [if_pos c14] at H
        have c14b0 : (t236 == 1) = true := beq_iff_eq.mpr c14
        have c14b1 : (t236 != 1) = false := bne_eq_false_iff_eq.mpr c14
        clear c14
        replace H := Option.bind_eq_some_iff.mp H
        obtain ⟨t248, A150, H⟩ := H
        replace H : ((maxplus_Check.f k t248).bind fun t251 => (some t251)) = some r := H
        have A15 := Aside0.mk A150
        clear A150
        replace H := Option.bind_eq_some_iff.mp H
        obtain ⟨t251, A160, H⟩ := H
        replace H : (some t251) = some r := H
        have A16 := Aside0.mk A160
        clear A160
        obtain rfl := Option.some.inj H
        go_enter Try.func17, Try.ntmps17
        go_wp2_with (first | ((with_reducible refine gate_callee (f := 37) rfl ?_); refine goesL_ (some 9) rfl rfl Try.func37 (by kernel_rfl) rfl #[] rfl (by (try simp only [List.map_toArray, List.map_cons, List.map_nil]); first | done | rfl | (simp only [List.length_drop, List.length_take]; rfl)) ?_; (with_reducible refine (railplanlaw33_example.calls  t217 _ A1.out).mono ?_); rintro e w17 ⟨v218, rfl, ho0, hb⟩; refine ⟨_, rfl, ?_⟩; have n0_ := Aside0.mk (Kd.N_lower (Kd.N_mono (ok' := fun k_ => True) ho0 (fun k_ hk_ => trivial)) (below_size (by repeat (first | (with_reducible first | exact HB.out | apply below_alloc | apply pw_below_drewN | apply below_drew1) | exact HB.out)))); have n1_ := Aside0.mk (below_step (by repeat (first | (with_reducible first | exact HB.out | apply below_alloc | apply pw_below_drewN | apply below_drew1) | exact HB.out)) hb); clear HB; have HO219 := n0_; have HB := n1_; clear n0_ n1_; (try clear hb); (try clear hb2); (try clear hk); (try clear hi); (try clear ho0); obtain ⟨Ao18, co18, eo18⟩ := Kd.N_slice HO219.out; subst eo18) | ((with_reducible refine gate_callee (f := 20) rfl ?_); refine goesL_ (some 10) rfl rfl Try.func20 (by kernel_rfl) rfl #[.slice Ao18 t217.length co18] rfl (by (try simp only [List.map_toArray, List.map_cons, List.map_nil]); first | done | rfl | (simp only [List.length_drop, List.length_take]; rfl)) ?_; (with_reducible refine (maxplus_Mean.calls k _ _ t217 t220 t221 true _ ?side1 ?side2 A2.out).mono ?_); (case side1 => repeat (first | exact (Kd.N_reads' HO219.out).2.2 | (with_reducible refine Kd.C_alloc ?_ _) | (with_reducible refine Kd.C_drewN ?_ _) | (with_reducible refine Kd.C_drew ?_))); (case side2 => exact (Kd.N_reads' HO219.out).2.1); rintro e w19 ⟨rfl, hb⟩; refine ⟨_, rfl, ?_⟩; have n0_ := Aside0.mk (Kd.N_below (by (with_reducible repeat (first | apply Kd.N_alloc | apply Kd.N_drewN | apply Kd.N_drew)); exact HO219.out) hb); have n1_ := Aside0.mk (below_step (by repeat (first | (with_reducible first | exact HB.out | apply below_alloc | apply pw_below_drewN | apply below_drew1) | exact HB.out)) hb); clear HO219; clear HB; have HO219 := n0_; have HB := n1_; clear n0_ n1_; (try clear hb); (try clear hb2); (try clear hk); (try clear hi)) | ((with_reducible refine gate_callee (f := 37) rfl ?_); refine goesL_ (some 15) rfl rfl Try.func37 (by kernel_rfl) rfl #[] rfl (by (try simp only [List.map_toArray, List.map_cons, List.map_nil]); first | done | rfl | (simp only [List.length_drop, List.length_take]; rfl)) ?_; (with_reducible refine (railplanlaw33_example.calls  t223 _ A3.out).mono ?_); rintro e w20 ⟨v224, rfl, ho0, hb⟩; refine ⟨_, rfl, ?_⟩; have n0_ := Aside0.mk (Kd.N_elder' (by (with_reducible repeat (first | apply Kd.N_alloc | apply Kd.N_drewN | apply Kd.N_drew)); exact HO219.out) (by first | exact Kd.N_base ho0 | exact Kd.S_base ho0 | exact Kd.R_base ho0 | exact Kd.Q_base ho0) hb); have n1_ := Aside0.mk (Kd.N_lower (Kd.N_mono (ok' := fun k_ => some k_ ≠ (.slice Ao18 t217.length co18 : Value).ownBlock) ho0 (fun k_ hk_ => (Kd.fresh' (Kd.N_lt (by (with_reducible repeat (first | apply Kd.N_alloc | apply Kd.N_drewN | apply Kd.N_drew)); exact HO219.out)) k_ hk_))) (below_size (by repeat (first | (with_reducible first | exact HB.out | apply below_alloc | apply pw_below_drewN | apply below_drew1) | exact HB.out)))); have n2_ := Aside0.mk (below_step (by repeat (first | (with_reducible first | exact HB.out | apply below_alloc | apply pw_below_drewN | apply below_drew1) | exact HB.out)) hb); clear HO219; clear HB; have HO219 := n0_; have HO225 := n1_; have HB := n2_; clear n0_ n1_ n2_; (try clear hb); (try clear hb2); (try clear hk); (try clear hi); (try clear ho0); obtain ⟨Ao21, co21, eo21⟩ := Kd.N_slice HO225.out; subst eo21) | ((with_reducible refine gate_callee (f := 15) rfl ?_); refine goesL_ (some 16) rfl rfl Try.func15 (by kernel_rfl) rfl #[.slice Ao21 t223.length co21, .int .i64 2] rfl (by (try simp only [List.map_toArray, List.map_cons, List.map_nil]); first | done | rfl | (simp only [List.length_drop, List.length_take]; rfl)) ?_; (with_reducible refine (maxplus_Power.calls k _ _ t223 2 t226 t227 _ ?side1 ?side2 A4.out).mono ?_); (case side1 => repeat (first | exact (Kd.N_reads' HO225.out).2.2 | (with_reducible refine Kd.C_alloc ?_ _) | (with_reducible refine Kd.C_drewN ?_ _) | (with_reducible refine Kd.C_drew ?_))); (case side2 => exact (Kd.N_reads' HO225.out).2.1); rintro e w22 ⟨v228, rfl, ho0, hb⟩; refine ⟨_, rfl, ?_⟩; have n0_ := Aside0.mk (Kd.N_elder' (by (with_reducible repeat (first | apply Kd.N_alloc | apply Kd.N_drewN | apply Kd.N_drew)); exact HO219.out) (by first | exact Kd.N_base ho0 | exact Kd.S_base ho0 | exact Kd.R_base ho0 | exact Kd.Q_base ho0) hb); have n1_ := Aside0.mk (Kd.N_elder' (by (with_reducible repeat (first | apply Kd.N_alloc | apply Kd.N_drewN | apply Kd.N_drew)); exact HO225.out) (by first | exact Kd.N_base ho0 | exact Kd.S_base ho0 | exact Kd.R_base ho0 | exact Kd.Q_base ho0) hb); have n2_ := Aside0.mk (Kd.N_lower (Kd.N_mono (ok' := fun k_ => some k_ ≠ (.slice Ao18 t217.length co18 : Value).ownBlock ∧ some k_ ≠ (.slice Ao21 t223.length co21 : Value).ownBlock) (Kd.S_N (Kd.S_bound ho0)) (fun k_ hk_ => ⟨(Kd.fresh' (Kd.N_lt (by (with_reducible repeat (first | apply Kd.N_alloc | apply Kd.N_drewN | apply Kd.N_drew)); exact HO219.out)) k_ hk_.2.1), (Kd.fresh' (Kd.N_lt (by (with_reducible repeat (first | apply Kd.N_alloc | apply Kd.N_drewN | apply Kd.N_drew)); exact HO225.out)) k_ hk_.2.1)⟩)) (below_size (by repeat (first | (with_reducible first | exact HB.out | apply below_alloc | apply pw_below_drewN | apply below_drew1) | exact HB.out)))); have n3_ := Aside0.mk (below_step (by repeat (first | (with_reducible first | exact HB.out | apply below_alloc | apply pw_below_drewN | apply below_drew1) | exact HB.out)) hb); clear HO219; clear HO225; clear HB; have HO219 := n0_; have HO225 := n1_; have HO229 := n2_; have HB := n3_; clear n0_ n1_ n2_ n3_; (try clear hb); (try clear hb2); (try clear hk); (try clear hi); (try clear ho0)) | ((with_reducible refine gate_callee (f := 37) rfl ?_); refine goesL_ (some 20) rfl rfl Try.func37 (by kernel_rfl) rfl #[] rfl (by (try simp only [List.map_toArray, List.map_cons, List.map_nil]); first | done | rfl | (simp only [List.length_drop, List.length_take]; rfl)) ?_; (with_reducible refine (railplanlaw33_example.calls  t230 _ A5.out).mono ?_); rintro e w23 ⟨v231, rfl, ho0, hb⟩; refine ⟨_, rfl, ?_⟩; have n0_ := Aside0.mk (Kd.N_elder' (by (with_reducible repeat (first | apply Kd.N_alloc | apply Kd.N_drewN | apply Kd.N_drew)); exact HO219.out) (by first | exact Kd.N_base ho0 | exact Kd.S_base ho0 | exact Kd.R_base ho0 | exact Kd.Q_base ho0) hb); have n1_ := Aside0.mk (Kd.N_elder' (by (with_reducible repeat (first | apply Kd.N_alloc | apply Kd.N_drewN | apply Kd.N_drew)); exact HO225.out) (by first | exact Kd.N_base ho0 | exact Kd.S_base ho0 | exact Kd.R_base ho0 | exact Kd.Q_base ho0) hb); have n2_ := Aside0.mk (Kd.N_elder' (by (with_reducible repeat (first | apply Kd.N_alloc | apply Kd.N_drewN | apply Kd.N_drew)); exact HO229.out) (by first | exact Kd.N_base ho0 | exact Kd.S_base ho0 | exact Kd.R_base ho0 | exact Kd.Q_base ho0) hb); have n3_ := Aside0.mk (Kd.N_lower (Kd.N_mono (ok' := fun k_ => some k_ ≠ (.slice Ao18 t217.length co18 : Value).ownBlock ∧ some k_ ≠ (.slice Ao21 t223.length co21 : Value).ownBlock ∧ some k_ ≠ (v228 : Value).ownBlock) ho0 (fun k_ hk_ => ⟨(Kd.fresh' (Kd.N_lt (by (with_reducible repeat (first | apply Kd.N_alloc | apply Kd.N_drewN | apply Kd.N_drew)); exact HO219.out)) k_ hk_), (Kd.fresh' (Kd.N_lt (by (with_reducible repeat (first | apply Kd.N_alloc | apply Kd.N_drewN | apply Kd.N_drew)); exact HO225.out)) k_ hk_), (Kd.fresh' (Kd.N_lt (by (with_reducible repeat (first | apply Kd.N_alloc | apply Kd.N_drewN | apply Kd.N_drew)); exact HO229.out)) k_ hk_)⟩)) (below_size (by repeat (first | (with_reducible first | exact HB.out | apply below_alloc | apply pw_below_drewN | apply below_drew1) | exact HB.out)))); have n4_ := Aside0.mk (below_step (by repeat (first | (with_reducible first | exact HB.out | apply below_alloc | apply pw_below_drewN | apply below_drew1) | exact HB.out)) hb); clear HO219; clear HO225; clear HO229; clear HB; have HO219 := n0_; have HO225 := n1_; have HO229 := n2_; have HO232 := n3_; have HB := n4_; clear n0_ n1_ n2_ n3_ n4_; (try clear hb); (try clear hb2); (try clear hk); (try clear hi); (try clear ho0)) | ((with_reducible refine gate_dst (N := 21) rfl ?_); (try (refine gate_guard (by rfl) ?_; dsimp only)); refine Kd.R_lit (Kd.int .i64) _ 3 ?hg (N := 21) ?hd (xs := ([2, 0] : List Int)) (inner := [.int .i64 2, .int .i64 0]) (ok := fun _ => True) (okp := fun _ => True) ?hr ?hp (fun _ hk => hk) trivial (Below.refl _ _) (Nat.le_refl _) (by simp) ?_; (case hd => rfl); (case hg => rfl); (case hr => first | (go_simp; done) | (go_simp; rfl)); (case hp => exact (Reps.one (show Kd.M (Kd.int .i64) _ _ _ 2 [.int .i64 2] from rfl) (Reps.one (show Kd.M (Kd.int .i64) _ _ _ 0 [.int .i64 0] from rfl) (Reps.none _ _)))); intro v234 w24 ho25 hb hg_ hnew_; clear hg_ hnew_; (first | rw [← Ny233.out] at ho25 | (simp only [Int.reduceToNat] at ho25; rw [← Ny233.out] at ho25)); have n0_ := Aside0.mk (Kd.N_elder' (by (with_reducible repeat (first | apply Kd.N_alloc | apply Kd.N_drewN | apply Kd.N_drew)); exact HO219.out) (by first | exact Kd.N_base ho25 | exact Kd.S_base ho25 | exact Kd.R_base ho25 | exact Kd.Q_base ho25) hb); have n1_ := Aside0.mk (Kd.N_elder' (by (with_reducible repeat (first | apply Kd.N_alloc | apply Kd.N_drewN | apply Kd.N_drew)); exact HO225.out) (by first | exact Kd.N_base ho25 | exact Kd.S_base ho25 | exact Kd.R_base ho25 | exact Kd.Q_base ho25) hb); have n2_ := Aside0.mk (Kd.N_elder' (by (with_reducible repeat (first | apply Kd.N_alloc | apply Kd.N_drewN | apply Kd.N_drew)); exact HO229.out) (by first | exact Kd.N_base ho25 | exact Kd.S_base ho25 | exact Kd.R_base ho25 | exact Kd.Q_base ho25) hb); have n3_ := Aside0.mk (Kd.N_elder' (by (with_reducible repeat (first | apply Kd.N_alloc | apply Kd.N_drewN | apply Kd.N_drew)); exact HO232.out) (by first | exact Kd.N_base ho25 | exact Kd.S_base ho25 | exact Kd.R_base ho25 | exact Kd.Q_base ho25) hb); have n4_ := Aside0.mk (Kd.R_lower ho25 (below_size (by repeat (first | (with_reducible first | exact HB.out | apply below_alloc | apply pw_below_drewN | apply below_drew1) | exact HB.out)))); have n5_ := Aside0.mk (below_step (by repeat (first | (with_reducible first | exact HB.out | apply below_alloc | apply pw_below_drewN | apply below_drew1) | exact HB.out)) hb); clear HO219; clear HO225; clear HO229; clear HO232; clear HB; have HO219 := n0_; have HO225 := n1_; have HO229 := n2_; have HO232 := n3_; have HO235 := n4_; have HB := n5_; clear n0_ n1_ n2_ n3_ n4_ n5_; clear hb ho25; obtain ⟨Ao26, co26, eo26⟩ := Kd.N_slice HO232.out; subst eo26; obtain ⟨Ao27, co27, eo27⟩ := Kd.R_slice HO235.out; subst eo27) | ((with_reducible refine gate_callee (f := 21) rfl ?_); refine goesL_ (some 22) rfl rfl Try.func21 (by kernel_rfl) rfl #[.slice Ao26 t230.length co26, .slice Ao27 y233.length co27, .int .i64 4, .int .i64 9] rfl (by (try simp only [List.map_toArray, List.map_cons, List.map_nil]); first | done | rfl | (simp only [List.length_drop, List.length_take]; rfl)) ?_; (with_reducible refine (maxplus_Recover.calls k _ _ t230 (fun k_ => some k_ = (.slice Ao27 y233.length co27 : Value).ownBlock) _ _ y233 4 9 t236 true _ ?side1 ?side2 ?side3 A6.out).mono ?_); (case side1 => repeat (first | exact (Kd.N_reads' HO232.out).2.2 | (with_reducible refine Kd.C_alloc ?_ _) | (with_reducible refine Kd.C_drewN ?_ _) | (with_reducible refine Kd.C_drew ?_))); (case side2 => exact (Kd.N_reads' HO232.out).2.1); (case side3 => exact Kd.R_V (Kd.R_tight rfl (Kd.R_apart' (Kd.R_apart' (Kd.R_apart' (Kd.R_apart' (HO235.out) (Kd.N_typed HO219.out) (by decide)) (Kd.N_typed HO225.out) (by decide)) (Kd.N_typed HO229.out) (by decide)) (Kd.N_typed HO232.out) (by decide)))); rintro e w28 ⟨rfl, hb⟩; refine ⟨_, rfl, ?_⟩; have n0_ := Aside0.mk (Kd.N_below (by (with_reducible repeat (first | apply Kd.N_alloc | apply Kd.N_drewN | apply Kd.N_drew)); exact HO219.out) hb); have n1_ := Aside0.mk (Kd.N_below (by (with_reducible repeat (first | apply Kd.N_alloc | apply Kd.N_drewN | apply Kd.N_drew)); exact HO225.out) hb); have n2_ := Aside0.mk (Kd.N_below (by (with_reducible repeat (first | apply Kd.N_alloc | apply Kd.N_drewN | apply Kd.N_drew)); exact HO229.out) hb); have n3_ := Aside0.mk (Kd.N_below (by (with_reducible repeat (first | apply Kd.N_alloc | apply Kd.N_drewN | apply Kd.N_drew)); exact HO232.out) hb); have n4_ := Aside0.mk (Kd.R_below (by (with_reducible repeat (first | apply Kd.R_alloc | apply Kd.R_drewN | apply Kd.R_drew)); exact HO235.out) hb); have n5_ := Aside0.mk (below_step (by repeat (first | (with_reducible first | exact HB.out | apply below_alloc | apply pw_below_drewN | apply below_drew1) | exact HB.out)) hb); clear HO219; clear HO225; clear HO229; clear HO232; clear HO235; clear HB; have HO219 := n0_; have HO225 := n1_; have HO229 := n2_; have HO232 := n3_; have HO235 := n4_; have HB := n5_; clear n0_ n1_ n2_ n3_ n4_ n5_; (try clear hb); (try clear hb2); (try clear hk); (try clear hi)) | ((with_reducible refine gate_dst (N := 40) rfl ?_); (try (refine gate_guard (by rfl) ?_; dsimp only)); refine Kd.R_lit (Kd.int .i64) _ 3 ?hg (N := 40) ?hd (xs := ([5, (-1125899906842624)] : List Int)) (inner := [.int .i64 5, .int .i64 (-1125899906842624)]) (ok := fun _ => True) (okp := fun _ => True) ?hr ?hp (fun _ hk => hk) trivial (Below.refl _ _) (Nat.le_refl _) (by simp) ?_; (case hd => rfl); (case hg => rfl); (case hr => first | (go_simp; done) | (go_simp; rfl)); (case hp => exact (Reps.one (show Kd.M (Kd.int .i64) _ _ _ 5 [.int .i64 5] from rfl) (Reps.one (show Kd.M (Kd.int .i64) _ _ _ (-1125899906842624) [.int .i64 (-1125899906842624)] from rfl) (Reps.none _ _)))); intro v239 w29 ho30 hb hg_ hnew_; clear hg_ hnew_; (first | rw [← Ny238.out] at ho30 | (simp only [Int.reduceToNat] at ho30; rw [← Ny238.out] at ho30)); have n0_ := Aside0.mk (Kd.N_elder' (by (with_reducible repeat (first | apply Kd.N_alloc | apply Kd.N_drewN | apply Kd.N_drew)); exact HO219.out) (by first | exact Kd.N_base ho30 | exact Kd.S_base ho30 | exact Kd.R_base ho30 | exact Kd.Q_base ho30) hb); have n1_ := Aside0.mk (Kd.N_elder' (by (with_reducible repeat (first | apply Kd.N_alloc | apply Kd.N_drewN | apply Kd.N_drew)); exact HO225.out) (by first | exact Kd.N_base ho30 | exact Kd.S_base ho30 | exact Kd.R_base ho30 | exact Kd.Q_base ho30) hb); have n2_ := Aside0.mk (Kd.N_elder' (by (with_reducible repeat (first | apply Kd.N_alloc | apply Kd.N_drewN | apply Kd.N_drew)); exact HO229.out) (by first | exact Kd.N_base ho30 | exact Kd.S_base ho30 | exact Kd.R_base ho30 | exact Kd.Q_base ho30) hb); have n3_ := Aside0.mk (Kd.N_elder' (by (with_reducible repeat (first | apply Kd.N_alloc | apply Kd.N_drewN | apply Kd.N_drew)); exact HO232.out) (by first | exact Kd.N_base ho30 | exact Kd.S_base ho30 | exact Kd.R_base ho30 | exact Kd.Q_base ho30) hb); have n4_ := Aside0.mk (Kd.R_elder' (by (with_reducible repeat (first | apply Kd.R_alloc | apply Kd.R_drewN | apply Kd.R_drew)); exact HO235.out) (by first | exact Kd.N_base ho30 | exact Kd.S_base ho30 | exact Kd.R_base ho30 | exact Kd.Q_base ho30) hb); have n5_ := Aside0.mk (Kd.R_lower (Kd.R_new' ho30 (Kd.R_lt (by (with_reducible repeat (first | apply Kd.R_alloc | apply Kd.R_drewN | apply Kd.R_drew)); exact HO235.out))) (below_size (by repeat (first | (with_reducible first | exact HB.out | apply below_alloc | apply pw_below_drewN | apply below_drew1) | exact HB.out)))); have n6_ := Aside0.mk (below_step (by repeat (first | (with_reducible first | exact HB.out | apply below_alloc | apply pw_below_drewN | apply below_drew1) | exact HB.out)) hb); clear HO219; clear HO225; clear HO229; clear HO232; clear HO235; clear HB; have HO219 := n0_; have HO225 := n1_; have HO229 := n2_; have HO232 := n3_; have HO235 := n4_; have HO240 := n5_; have HB := n6_; clear n0_ n1_ n2_ n3_ n4_ n5_ n6_; clear hb ho30) | ((with_reducible refine gate_dst (N := 41) rfl ?_); (try (refine gate_guard (by rfl) ?_; dsimp only)); refine Kd.R_lit (Kd.int .i64) _ 3 ?hg (N := 41) ?hd (xs := ([(-1125899906842624), 5] : List Int)) (inner := [.int .i64 (-1125899906842624), .int .i64 5]) (ok := fun _ => True) (okp := fun _ => True) ?hr ?hp (fun _ hk => hk) trivial (Below.refl _ _) (Nat.le_refl _) (by simp) ?_; (case hd => rfl); (case hg => rfl); (case hr => first | (go_simp; done) | (go_simp; rfl)); (case hp => exact (Reps.one (show Kd.M (Kd.int .i64) _ _ _ (-1125899906842624) [.int .i64 (-1125899906842624)] from rfl) (Reps.one (show Kd.M (Kd.int .i64) _ _ _ 5 [.int .i64 5] from rfl) (Reps.none _ _)))); intro v242 w31 ho32 hb hg_ hnew_; clear hg_ hnew_; (first | rw [← Ny241.out] at ho32 | (simp only [Int.reduceToNat] at ho32; rw [← Ny241.out] at ho32)); have n0_ := Aside0.mk (Kd.N_elder' (by (with_reducible repeat (first | apply Kd.N_alloc | apply Kd.N_drewN | apply Kd.N_drew)); exact HO219.out) (by first | exact Kd.N_base ho32 | exact Kd.S_base ho32 | exact Kd.R_base ho32 | exact Kd.Q_base ho32) hb); have n1_ := Aside0.mk (Kd.N_elder' (by (with_reducible repeat (first | apply Kd.N_alloc | apply Kd.N_drewN | apply Kd.N_drew)); exact HO225.out) (by first | exact Kd.N_base ho32 | exact Kd.S_base ho32 | exact Kd.R_base ho32 | exact Kd.Q_base ho32) hb); have n2_ := Aside0.mk (Kd.N_elder' (by (with_reducible repeat (first | apply Kd.N_alloc | apply Kd.N_drewN | apply Kd.N_drew)); exact HO229.out) (by first | exact Kd.N_base ho32 | exact Kd.S_base ho32 | exact Kd.R_base ho32 | exact Kd.Q_base ho32) hb); have n3_ := Aside0.mk (Kd.N_elder' (by (with_reducible repeat (first | apply Kd.N_alloc | apply Kd.N_drewN | apply Kd.N_drew)); exact HO232.out) (by first | exact Kd.N_base ho32 | exact Kd.S_base ho32 | exact Kd.R_base ho32 | exact Kd.Q_base ho32) hb); have n4_ := Aside0.mk (Kd.R_elder' (by (with_reducible repeat (first | apply Kd.R_alloc | apply Kd.R_drewN | apply Kd.R_drew)); exact HO235.out) (by first | exact Kd.N_base ho32 | exact Kd.S_base ho32 | exact Kd.R_base ho32 | exact Kd.Q_base ho32) hb); have n5_ := Aside0.mk (Kd.R_elder' (by (with_reducible repeat (first | apply Kd.R_alloc | apply Kd.R_drewN | apply Kd.R_drew)); exact HO240.out) (by first | exact Kd.N_base ho32 | exact Kd.S_base ho32 | exact Kd.R_base ho32 | exact Kd.Q_base ho32) hb); have n6_ := Aside0.mk (Kd.R_lower (Kd.R_new' (Kd.R_new' ho32 (Kd.R_lt (by (with_reducible repeat (first | apply Kd.R_alloc | apply Kd.R_drewN | apply Kd.R_drew)); exact HO235.out))) (Kd.R_lt (by (with_reducible repeat (first | apply Kd.R_alloc | apply Kd.R_drewN | apply Kd.R_drew)); exact HO240.out))) (below_size (by repeat (first | (with_reducible first | exact HB.out | apply below_alloc | apply pw_below_drewN | apply below_drew1) | exact HB.out)))); have n7_ := Aside0.mk (below_step (by repeat (first | (with_reducible first | exact HB.out | apply below_alloc | apply pw_below_drewN | apply below_drew1) | exact HB.out)) hb); clear HO219; clear HO225; clear HO229; clear HO232; clear HO235; clear HO240; clear HB; have HO219 := n0_; have HO225 := n1_; have HO229 := n2_; have HO232 := n3_; have HO235 := n4_; have HO240 := n5_; have HO243 := n6_; have HB := n7_; clear n0_ n1_ n2_ n3_ n4_ n5_ n6_ n7_; clear hb ho32; obtain ⟨Ao33, co33, eo33⟩ := Kd.R_slice HO240.out; subst eo33; obtain ⟨Ao34, co34, eo34⟩ := Kd.R_slice HO243.out; subst eo34) | ((with_reducible refine gate_dst (N := 42) rfl ?_); (try (refine gate_guard (by rfl) ?_; dsimp only)); refine Kd.N_lit (Kd.slice 3 (Kd.int .i64)) _ 22 ?hg (N' := 42) ?hd (xs := ([y238, y241] : List (List Int))) (inner := [.slice Ao33 y238.length co33, .slice Ao34 y241.length co34]) (ok := (fun k_ => some k_ ≠ (.slice Ao18 t217.length co18 : Value).ownBlock ∧ some k_ ≠ (.slice Ao21 t223.length co21 : Value).ownBlock ∧ some k_ ≠ (v228 : Value).ownBlock ∧ some k_ ≠ (.slice Ao26 t230.length co26 : Value).ownBlock ∧ some k_ ≠ (.slice Ao27 y233.length co27 : Value).ownBlock)) (okp := (fun k_ => some k_ ≠ (.slice Ao18 t217.length co18 : Value).ownBlock ∧ some k_ ≠ (.slice Ao21 t223.length co21 : Value).ownBlock ∧ some k_ ≠ (v228 : Value).ownBlock ∧ some k_ ≠ (.slice Ao26 t230.length co26 : Value).ownBlock ∧ some k_ ≠ (.slice Ao27 y233.length co27 : Value).ownBlock)) ?hr ?hp (fun _ hk => hk) ((show ∀ k_, w31.heap.size ≤ k_ → (fun k_ => some k_ ≠ (.slice Ao18 t217.length co18 : Value).ownBlock ∧ some k_ ≠ (.slice Ao21 t223.length co21 : Value).ownBlock ∧ some k_ ≠ (v228 : Value).ownBlock ∧ some k_ ≠ (.slice Ao26 t230.length co26 : Value).ownBlock ∧ some k_ ≠ (.slice Ao27 y233.length co27 : Value).ownBlock) k_ from fun k_ hk => ⟨Kd.fresh' (Kd.N_lt (by (with_reducible repeat (first | apply Kd.N_alloc | apply Kd.N_drewN | apply Kd.N_drew)); exact HO219.out)) k_ hk, Kd.fresh' (Kd.N_lt (by (with_reducible repeat (first | apply Kd.N_alloc | apply Kd.N_drewN | apply Kd.N_drew)); exact HO225.out)) k_ hk, Kd.fresh' (Kd.N_lt (by (with_reducible repeat (first | apply Kd.N_alloc | apply Kd.N_drewN | apply Kd.N_drew)); exact HO229.out)) k_ hk, Kd.fresh' (Kd.N_lt (by (with_reducible repeat (first | apply Kd.N_alloc | apply Kd.N_drewN | apply Kd.N_drew)); exact HO232.out)) k_ hk, Kd.fresh' (Kd.R_lt (by (with_reducible repeat (first | apply Kd.R_alloc | apply Kd.R_drewN | apply Kd.R_drew)); exact HO235.out)) k_ hk⟩) _ (Nat.le_refl _)) (Below.refl _ _) (Nat.le_refl _) (by simp) ?_; (case hd => rfl); (case hg => rfl); (case hr => first | (go_simp; done) | (go_simp; rfl)); (case hp => exact (Reps.one (show Kd.FK (Kd.slice 3 (Kd.int .i64)) _ _ y238 [.slice Ao33 y238.length co33] from (Kd.FK_slice_mk (Kd.R_reads' (Kd.R_mono (ok' := (fun k_ => some k_ ≠ (.slice Ao18 t217.length co18 : Value).ownBlock ∧ some k_ ≠ (.slice Ao21 t223.length co21 : Value).ownBlock ∧ some k_ ≠ (v228 : Value).ownBlock ∧ some k_ ≠ (.slice Ao26 t230.length co26 : Value).ownBlock ∧ some k_ ≠ (.slice Ao27 y233.length co27 : Value).ownBlock)) (Kd.R_apart' (Kd.R_apart' (Kd.R_apart' (Kd.R_apart' (HO240.out) (Kd.N_typed HO219.out) (by decide)) (Kd.N_typed HO225.out) (by decide)) (Kd.N_typed HO229.out) (by decide)) (Kd.N_typed HO232.out) (by decide)) (fun k_ hk => ⟨hk.1.1.1.2, ⟨hk.1.1.2, ⟨hk.1.2, ⟨hk.2, hk.1.1.1.1.1.2⟩⟩⟩⟩))).2.1 (Kd.R_F (Kd.R_mono (ok' := (fun k_ => some k_ ≠ (.slice Ao18 t217.length co18 : Value).ownBlock ∧ some k_ ≠ (.slice Ao21 t223.length co21 : Value).ownBlock ∧ some k_ ≠ (v228 : Value).ownBlock ∧ some k_ ≠ (.slice Ao26 t230.length co26 : Value).ownBlock ∧ some k_ ≠ (.slice Ao27 y233.length co27 : Value).ownBlock)) (Kd.R_apart' (Kd.R_apart' (Kd.R_apart' (Kd.R_apart' (HO240.out) (Kd.N_typed HO219.out) (by decide)) (Kd.N_typed HO225.out) (by decide)) (Kd.N_typed HO229.out) (by decide)) (Kd.N_typed HO232.out) (by decide)) (fun k_ hk => ⟨hk.1.1.1.2, ⟨hk.1.1.2, ⟨hk.1.2, ⟨hk.2, hk.1.1.1.1.1.2⟩⟩⟩⟩))))) (Reps.one (show Kd.FK (Kd.slice 3 (Kd.int .i64)) _ _ y241 [.slice Ao34 y241.length co34] from (Kd.FK_slice_mk (Kd.R_reads' (Kd.R_mono (ok' := (fun k_ => some k_ ≠ (.slice Ao18 t217.length co18 : Value).ownBlock ∧ some k_ ≠ (.slice Ao21 t223.length co21 : Value).ownBlock ∧ some k_ ≠ (v228 : Value).ownBlock ∧ some k_ ≠ (.slice Ao26 t230.length co26 : Value).ownBlock ∧ some k_ ≠ (.slice Ao27 y233.length co27 : Value).ownBlock)) (Kd.R_apart' (Kd.R_apart' (Kd.R_apart' (Kd.R_apart' (HO243.out) (Kd.N_typed HO219.out) (by decide)) (Kd.N_typed HO225.out) (by decide)) (Kd.N_typed HO229.out) (by decide)) (Kd.N_typed HO232.out) (by decide)) (fun k_ hk => ⟨hk.1.1.1.2, ⟨hk.1.1.2, ⟨hk.1.2, ⟨hk.2, hk.1.1.1.1.1.2⟩⟩⟩⟩))).2.1 (Kd.R_F (Kd.R_mono (ok' := (fun k_ => some k_ ≠ (.slice Ao18 t217.length co18 : Value).ownBlock ∧ some k_ ≠ (.slice Ao21 t223.length co21 : Value).ownBlock ∧ some k_ ≠ (v228 : Value).ownBlock ∧ some k_ ≠ (.slice Ao26 t230.length co26 : Value).ownBlock ∧ some k_ ≠ (.slice Ao27 y233.length co27 : Value).ownBlock)) (Kd.R_apart' (Kd.R_apart' (Kd.R_apart' (Kd.R_apart' (HO243.out) (Kd.N_typed HO219.out) (by decide)) (Kd.N_typed HO225.out) (by decide)) (Kd.N_typed HO229.out) (by decide)) (Kd.N_typed HO232.out) (by decide)) (fun k_ hk => ⟨hk.1.1.1.2, ⟨hk.1.1.2, ⟨hk.1.2, ⟨hk.2, hk.1.1.1.1.1.2⟩⟩⟩⟩))))) (Reps.none _ _)))); intro v245 w35 ho36 hb hg_ hnew_; clear hg_ hnew_; (first | rw [← Ny244.out] at ho36 | (simp only [Int.reduceToNat] at ho36; rw [← Ny244.out] at ho36)); have n0_ := Aside0.mk (Kd.N_elder' (by (with_reducible repeat (first | apply Kd.N_alloc | apply Kd.N_drewN | apply Kd.N_drew)); exact HO219.out) (by first | exact Kd.N_base ho36 | exact Kd.S_base ho36 | exact Kd.R_base ho36 | exact Kd.Q_base ho36) hb); have n1_ := Aside0.mk (Kd.N_elder' (by (with_reducible repeat (first | apply Kd.N_alloc | apply Kd.N_drewN | apply Kd.N_drew)); exact HO225.out) (by first | exact Kd.N_base ho36 | exact Kd.S_base ho36 | exact Kd.R_base ho36 | exact Kd.Q_base ho36) hb); have n2_ := Aside0.mk (Kd.N_elder' (by (with_reducible repeat (first | apply Kd.N_alloc | apply Kd.N_drewN | apply Kd.N_drew)); exact HO229.out) (by first | exact Kd.N_base ho36 | exact Kd.S_base ho36 | exact Kd.R_base ho36 | exact Kd.Q_base ho36) hb); have n3_ := Aside0.mk (Kd.N_elder' (by (with_reducible repeat (first | apply Kd.N_alloc | apply Kd.N_drewN | apply Kd.N_drew)); exact HO232.out) (by first | exact Kd.N_base ho36 | exact Kd.S_base ho36 | exact Kd.R_base ho36 | exact Kd.Q_base ho36) hb); have n4_ := Aside0.mk (Kd.R_below (by (with_reducible repeat (first | apply Kd.R_alloc | apply Kd.R_drewN | apply Kd.R_drew)); exact HO235.out) hb); have n5_ := Aside0.mk (Kd.N_lower ho36 (below_size (by repeat (first | (with_reducible first | exact HB.out | apply below_alloc | apply pw_below_drewN | apply below_drew1) | exact HB.out)))); have n6_ := Aside0.mk (below_step (by repeat (first | (with_reducible first | exact HB.out | apply below_alloc | apply pw_below_drewN | apply below_drew1) | exact HB.out)) hb); clear HO219; clear HO225; clear HO229; clear HO232; clear HO235; clear HB; clear HO240; clear HO243; have HO219 := n0_; have HO225 := n1_; have HO229 := n2_; have HO232 := n3_; have HO235 := n4_; have HO246 := n5_; have HB := n6_; clear n0_ n1_ n2_ n3_ n4_ n5_ n6_; clear hb ho36; obtain ⟨Ao37, co37, eo37⟩ := Kd.N_slice HO229.out; subst eo37; obtain ⟨Ao38, co38, eo38⟩ := Kd.N_slice HO246.out; subst eo38) | (go_at_call 18; (with_reducible refine (railplankeep_SameLists_int.calls k _ _ t226 _ _ y244 true _ ?side1 ?side2 ?side3 ?side4 A11.out).mono ?_); (case side1 => repeat (first | exact (Kd.N_reads' HO229.out).2.2 | (with_reducible refine Kd.C_alloc ?_ _) | (with_reducible refine Kd.C_drewN ?_ _) | (with_reducible refine Kd.C_drew ?_))); (case side2 => exact (Kd.N_reads' HO229.out).2.1); (case side3 => repeat (first | exact (Kd.N_reads' HO246.out).2.2 | (with_reducible refine Kd.C_alloc ?_ _) | (with_reducible refine Kd.C_drewN ?_ _) | (with_reducible refine Kd.C_drew ?_))); (case side4 => exact (Kd.N_reads' HO246.out).2.1); rintro e w' ⟨rfl, ⟨nd, rfl⟩⟩) | (go_at_call 37; (with_reducible refine (railplanlaw33_example.calls  t248 _ A15.out).mono ?_); rintro e w39 ⟨v249, rfl, ho0, hb⟩; have n0_ := Aside0.mk (Kd.N_elder' (by (with_reducible repeat (first | apply Kd.N_alloc | apply Kd.N_drewN | apply Kd.N_drew)); exact HO219.out) (by first | exact Kd.N_base ho0 | exact Kd.S_base ho0 | exact Kd.R_base ho0 | exact Kd.Q_base ho0) hb); have n1_ := Aside0.mk (Kd.N_elder' (by (with_reducible repeat (first | apply Kd.N_alloc | apply Kd.N_drewN | apply Kd.N_drew)); exact HO225.out) (by first | exact Kd.N_base ho0 | exact Kd.S_base ho0 | exact Kd.R_base ho0 | exact Kd.Q_base ho0) hb); have n2_ := Aside0.mk (Kd.N_elder' (by (with_reducible repeat (first | apply Kd.N_alloc | apply Kd.N_drewN | apply Kd.N_drew)); exact HO229.out) (by first | exact Kd.N_base ho0 | exact Kd.S_base ho0 | exact Kd.R_base ho0 | exact Kd.Q_base ho0) hb); have n3_ := Aside0.mk (Kd.N_elder' (by (with_reducible repeat (first | apply Kd.N_alloc | apply Kd.N_drewN | apply Kd.N_drew)); exact HO232.out) (by first | exact Kd.N_base ho0 | exact Kd.S_base ho0 | exact Kd.R_base ho0 | exact Kd.Q_base ho0) hb); have n4_ := Aside0.mk (Kd.R_below (by (with_reducible repeat (first | apply Kd.R_alloc | apply Kd.R_drewN | apply Kd.R_drew)); exact HO235.out) hb); have n5_ := Aside0.mk (Kd.N_elder' (by (with_reducible repeat (first | apply Kd.N_alloc | apply Kd.N_drewN | apply Kd.N_drew)); exact HO246.out) (by first | exact Kd.N_base ho0 | exact Kd.S_base ho0 | exact Kd.R_base ho0 | exact Kd.Q_base ho0) hb); have n6_ := Aside0.mk (Kd.N_lower (Kd.N_mono (ok' := fun k_ => some k_ ≠ (.slice Ao18 t217.length co18 : Value).ownBlock ∧ some k_ ≠ (.slice Ao21 t223.length co21 : Value).ownBlock ∧ some k_ ≠ (.slice Ao37 t226.length co37 : Value).ownBlock ∧ some k_ ≠ (.slice Ao26 t230.length co26 : Value).ownBlock ∧ some k_ ≠ (.slice Ao27 y233.length co27 : Value).ownBlock ∧ some k_ ≠ (.slice Ao38 y244.length co38 : Value).ownBlock) ho0 (fun k_ hk_ => ⟨(Kd.fresh' (Kd.N_lt (by (with_reducible repeat (first | apply Kd.N_alloc | apply Kd.N_drewN | apply Kd.N_drew)); exact HO219.out)) k_ hk_), (Kd.fresh' (Kd.N_lt (by (with_reducible repeat (first | apply Kd.N_alloc | apply Kd.N_drewN | apply Kd.N_drew)); exact HO225.out)) k_ hk_), (Kd.fresh' (Kd.N_lt (by (with_reducible repeat (first | apply Kd.N_alloc | apply Kd.N_drewN | apply Kd.N_drew)); exact HO229.out)) k_ hk_), (Kd.fresh' (Kd.N_lt (by (with_reducible repeat (first | apply Kd.N_alloc | apply Kd.N_drewN | apply Kd.N_drew)); exact HO232.out)) k_ hk_), (Kd.fresh' (Kd.R_lt (by (with_reducible repeat (first | apply Kd.R_alloc | apply Kd.R_drewN | apply Kd.R_drew)); exact HO235.out)) k_ hk_), (Kd.fresh' (Kd.N_lt (by (with_reducible repeat (first | apply Kd.N_alloc | apply Kd.N_drewN | apply Kd.N_drew)); exact HO246.out)) k_ hk_)⟩)) (below_size (by repeat (first | (with_reducible first | exact HB.out | apply below_alloc | apply pw_below_drewN | apply below_drew1) | exact HB.out)))); have n7_ := Aside0.mk (below_step (by repeat (first | (with_reducible first | exact HB.out | apply below_alloc | apply pw_below_drewN | apply below_drew1) | exact HB.out)) hb); clear HO219; clear HO225; clear HO229; clear HO232; clear HO235; clear HO246; clear HB; have HO219 := n0_; have HO225 := n1_; have HO229 := n2_; have HO232 := n3_; have HO235 := n4_; have HO246 := n5_; have HO250 := n6_; have HB := n7_; clear n0_ n1_ n2_ n3_ n4_ n5_ n6_ n7_; (try clear hb); (try clear hb2); (try clear hk); (try clear hi); (try clear ho0); obtain ⟨Ao40, co40, eo40⟩ := Kd.N_slice HO250.out; subst eo40) | (go_at_call 30; (with_reducible refine (maxplus_Check.calls k _ _ t248 t251 _ ?side1 ?side2 A16.out).mono ?_); (case side1 => repeat (first | exact (Kd.N_reads' HO250.out).2.2 | (with_reducible refine Kd.C_alloc ?_ _) | (with_reducible refine Kd.C_drewN ?_ _) | (with_reducible refine Kd.C_drew ?_))); (case side2 => exact (Kd.N_reads' HO250.out).2.1); rintro e w' ⟨rfl, ⟨nd, rfl⟩⟩))
        go_ret
        exact ⟨by first | rfl | (simp [errW_none, errW_some] <;> rfl) | (simp [*, errW_none, errW_some] <;> rfl), by repeat (first | (with_reducible first | exact HB.out | apply below_alloc | apply pw_below_drewN | apply below_drew1) | exact HB.out)⟩
       ·rw [if_neg c14] at H
        have c14b0 : (t236 == 1) = false := beq_eq_false_iff_ne.mpr c14
        have c14b1 : (t236 != 1) = true := bne_iff_ne.mpr c14
        exact absurd (Option.some.inj H) (by rw [hT.out]; decide)
      ·replace c13 := Bool.eq_false_iff.mpr c13
       subst c13
       have H1 : (some false) = some r := by rw [if_neg (show ¬ (false = true) by decide)] at H; exact H
       clear H
       have H := H1
       clear H1
       exact absurd (Option.some.inj H) (by rw [hT.out]; decide)
     ·replace c12 := Bool.eq_false_iff.mpr c12
      subst c12
      have H1 : (some false) = some r := by rw [if_neg (show ¬ (false = true) by decide)] at H; exact H
      clear H
      have H := H1
      clear H1
      exact absurd (Option.some.inj H) (by rw [hT.out]; decide)
    ·rw [if_neg c10] at H
     have c10b0 : (t227 == 0) = false := beq_eq_false_iff_ne.mpr c10
     have c10b1 : (t227 != 0) = true := bne_iff_ne.mpr c10
     exact absurd (Option.some.inj H) (by rw [hT.out]; decide)
   ·rw [if_neg c9] at H
    have c9b0 : (t221 == 2) = false := beq_eq_false_iff_ne.mpr c9
    have c9b1 : (t221 != 2) = true := bne_iff_ne.mpr c9
    exact absurd (Option.some.inj H) (by rw [hT.out]; decide)
  ·rw [if_neg c8] at H
   have c8b0 : (t220 == 5) = false := beq_eq_false_iff_ne.mpr c8
   have c8b1 : (t220 != 5) = true := bne_iff_ne.mpr c8
   exact absurd (Option.some.inj H) (by rw [hT.out]; decide)
 ·replace c7 := Bool.eq_false_iff.mpr c7
  subst c7
  have H1 : (some false) = some r := by rw [if_neg (show ¬ (false = true) by decide)] at H; exact H
  clear H
  have H := H1
  clear H1
  exact absurd (Option.some.inj H) (by rw [hT.out]; decide)

/-! ### railplanref30_entry: function 53 -/
def railplanref30_entry.f (a0 : Int) : Option (Bool) := if a0 = (-1125899906842624) then (some true) else (if a0 ≥ (-68719476736) then (some (decide (a0 ≤ 68719476736))) else (some false))
set_option maxHeartbeats 8000000 in
set_option maxRecDepth 100000 in
theorem railplanref30_entry.calls (a0 : Int) (r : Bool) (w : World) (h : railplanref30_entry.f a0 = some r) :
  Calls Try.prog 53 #[.int .i64 a0] w fun e w' => e = .returned (.bool r) ∧ Drawn0 w w' := by
 have H : (if a0 = (-1125899906842624) then (some true) else (if a0 ≥ (-68719476736) then (some (decide (a0 ≤ 68719476736))) else (some false))) = some r := h
 clear h
 by_cases c2 : a0 = (-1125899906842624)
 ·rw [if_pos c2] at H
  have c2b0 : (a0 == (-1125899906842624)) = true := beq_iff_eq.mpr c2
  have c2b1 : (a0 != (-1125899906842624)) = false := bne_eq_false_iff_eq.mpr c2
  clear c2
  obtain rfl := Option.some.inj H
  go_enter Try.func53, Try.ntmps53
  go_wp2
  go_ret
  exact ⟨by first | rfl | (simp; done) | (simp [*]; done), by repeat (first | exact Drawn0.refl _ | apply Drawn0.step)⟩
 ·rw [if_neg c2] at H
  have c2b0 : (a0 == (-1125899906842624)) = false := beq_eq_false_iff_ne.mpr c2
  have c2b1 : (a0 != (-1125899906842624)) = true := bne_iff_ne.mpr c2
  by_cases c3 : a0 ≥ (-68719476736)
  ·rw [if_pos c3] at H
   have c3b0 : decide ((-68719476736) ≤ a0) = true := decide_eq_true c3
   clear c3
   obtain rfl := Option.some.inj H
   go_enter Try.func53, Try.ntmps53
   go_wp2
   go_ret
   exact ⟨by first | rfl | (simp; done) | (simp [*]; done), by repeat (first | exact Drawn0.refl _ | apply Drawn0.step)⟩
  ·rw [if_neg c3] at H
   have c3b0 : decide ((-68719476736) ≤ a0) = false := decide_eq_false c3
   clear c3
   obtain rfl := Option.some.inj H
   go_enter Try.func53, Try.ntmps53
   go_wp2
   go_ret
   exact ⟨by first | rfl | (simp; done) | (simp [*]; done), by repeat (first | exact Drawn0.refl _ | apply Drawn0.step)⟩

/-! ### railplanref30_Vector: function 33 -/
mutual
def railplanref30_Vector.j0 : Nat → List Int → Bool → Option (Bool)
 | 0, _, _ => none
 | k + 1, x1, x18 => if x18 = true then (some false) else (railplanref30_Vector.l0 k x1 (x1.length : Int) 0)
def railplanref30_Vector.l0 : Nat → List Int → Int → Int → Option (Bool)
 | 0, _, _, _ => none
 | k + 1, x19, x20, x21 => if x21 < x20 then (if 0 ≤ x21 then (if x21 < (x19.length : Int) then ((railplanref30_entry.f (rd x19 x21)).bind fun t253 => (if t253 = true then (railplanref30_Vector.l0 k x19 x20 (wrap64 (x21 + 1))) else (some false))) else (none)) else (none)) else (some true)
end
def railplanref30_Vector.f (k : Nat) (a0 : Int) (l1 : List Int) : Option (Bool) := if (l1.length : Int) = a0 then (if a0 < 1 then (railplanref30_Vector.j0 k l1 true) else (railplanref30_Vector.j0 k l1 (decide (a0 > 12)))) else (railplanref30_Vector.j0 k l1 true)
theorem railplanref30_Vector.mono_l : ∀ k, (∀ y0 y1, LeO (railplanref30_Vector.j0 k y0 y1) (railplanref30_Vector.j0 (k + 1) y0 y1)) ∧ (∀ y0 y1 y2, LeO (railplanref30_Vector.l0 k y0 y1 y2) (railplanref30_Vector.l0 (k + 1) y0 y1 y2))
 | 0 => ⟨fun _ _ r h => by simp [railplanref30_Vector.j0] at h, fun _ _ _ r h => by simp [railplanref30_Vector.l0] at h⟩
 | k + 1 => by
  obtain ⟨ih0, ih1⟩ := railplanref30_Vector.mono_l k
  refine ⟨?_, ?_⟩
  ·intro y0 y1
   unfold railplanref30_Vector.j0
   repeat' first
   | (with_reducible exact ih0 _ _)
   | (with_reducible exact ih1 _ _ _)
   | (with_reducible exact LeO.refl _)
   | (with_reducible exact LeO.none _)
   | (with_reducible refine LeO.ite ?_ ?_)
   | (with_reducible refine LeO.bind ?_ (fun _ => ?_))
   | exact ih0 _ _
   | exact ih1 _ _ _
   | exact LeO.none _
   | refine LeO.ite ?_ ?_
   | refine LeO.bind ?_ (fun _ => ?_)
  ·intro y0 y1 y2
   unfold railplanref30_Vector.l0
   repeat' first
   | (with_reducible exact ih0 _ _)
   | (with_reducible exact ih1 _ _ _)
   | (with_reducible exact LeO.refl _)
   | (with_reducible exact LeO.none _)
   | (with_reducible refine LeO.ite ?_ ?_)
   | (with_reducible refine LeO.bind ?_ (fun _ => ?_))
   | exact ih0 _ _
   | exact ih1 _ _ _
   | exact LeO.none _
   | refine LeO.ite ?_ ?_
   | refine LeO.bind ?_ (fun _ => ?_)
theorem railplanref30_Vector.mono : ∀ a0 a1 k, LeO (railplanref30_Vector.f k a0 a1) (railplanref30_Vector.f (k + 1) a0 a1) := by
 intro a0 a1 k
 obtain ⟨ih0, ih1⟩ := railplanref30_Vector.mono_l k
 unfold railplanref30_Vector.f
 repeat' first
   | (with_reducible exact ih0 _ _)
   | (with_reducible exact ih1 _ _ _)
   | (with_reducible exact LeO.refl _)
   | (with_reducible exact LeO.none _)
   | (with_reducible refine LeO.ite ?_ ?_)
   | (with_reducible refine LeO.bind ?_ (fun _ => ?_))
   | exact ih0 _ _
   | exact ih1 _ _ _
   | exact LeO.none _
   | refine LeO.ite ?_ ?_
   | refine LeO.bind ?_ (fun _ => ?_)
set_option maxHeartbeats 8000000 in
set_option maxRecDepth 100000 in
theorem railplanref30_Vector.calls (k : Nat) (a0 : Int) (A1 : Option Addr) (c1 : Nat) (l1 : List Int) (r : Bool) (w : World) (hr1 : Kd.C (Kd.int .i64) w A1 l1.length l1) (hc1 : l1.length ≤ c1) (h : railplanref30_Vector.f k a0 l1 = some r) :
  Calls Try.prog 33 #[.int .i64 a0, .slice A1 l1.length c1] w fun e w' => e = .returned (.bool r) ∧ Drawn0 w w' := by
 have HR1 := Aside0.mk hr1
 have HC1 := Aside0.mk hc1
 clear hr1 hc1
 have H : (if (l1.length : Int) = a0 then (if a0 < 1 then (railplanref30_Vector.j0 k l1 true) else (railplanref30_Vector.j0 k l1 (decide (a0 > 12)))) else (railplanref30_Vector.j0 k l1 true)) = some r := h
 clear h
 have HC3 := Aside0.mk H
 clear H
 go_enter Try.func33, Try.ntmps33
 go_upto_region 1 with (fail)
 go_cut [18] (fun v18 wc => ∃ (kq : Nat) (x18_2 : Bool), v18 = .bool x18_2 ∧ Aside0 (railplanref30_Vector.j0 kq l1 x18_2 = some r) ∧ Aside0 (kq ≤ k) ∧ Drawn0 w wc)
 case first =>
  have H := HC3.out
  clear HC3
  by_cases c4 : (l1.length : Int) = a0
  ·rw [if_pos c4] at H
   have c4b0 : ((l1.length : Int) == a0) = true := beq_iff_eq.mpr c4
   have c4b1 : ((l1.length : Int) != a0) = false := bne_eq_false_iff_eq.mpr c4
   clear c4
   (first | rw [c4b0] | (simp only [i64_w, i32_w]; rw [c4b0]) | skip)
   by_cases c5 : a0 < 1
   ·rw [if_pos c5] at H
    have c5b0 : decide (a0 < 1) = true := decide_eq_true c5
    clear c5
    have H' := Aside0.mk H
    clear H
    go_wp2
    go_meet
    case rel => exact ⟨_, (true), (by first | rfl | (simp; done) | (simp [*]; done)), H', ⟨by first | omega | exact Nat.le_refl _⟩, by repeat (first | exact Drawn0.refl _ | apply Drawn0.step)⟩
   ·rw [if_neg c5] at H
    have c5b0 : decide (a0 < 1) = false := decide_eq_false c5
    clear c5
    have H' := Aside0.mk H
    clear H
    go_wp2
    go_meet
    case rel => exact ⟨_, (decide (a0 > 12)), (by first | rfl | (simp; done) | (simp [*]; done)), H', ⟨by first | omega | exact Nat.le_refl _⟩, by repeat (first | exact Drawn0.refl _ | apply Drawn0.step)⟩
  ·rw [if_neg c4] at H
   have c4b0 : ((l1.length : Int) == a0) = false := beq_eq_false_iff_ne.mpr c4
   have c4b1 : ((l1.length : Int) != a0) = true := bne_iff_ne.mpr c4
   (first | rw [c4b0] | (simp only [i64_w, i32_w]; rw [c4b0]) | skip)
   have H' := Aside0.mk H
   clear H
   go_wp2
   go_meet
   case rel => exact ⟨_, (true), (by first | rfl | (simp; done) | (simp [*]; done)), H', ⟨by first | omega | exact Nat.le_refl _⟩, by repeat (first | exact Drawn0.refl _ | apply Drawn0.step)⟩
 case rest =>
  clear HC3
  try clear c1
  try clear p2
  try clear c3
  try clear c4
  try clear c4b0
  try clear c4b1
  try clear c5
  try clear c5b0
  obtain ⟨kq, x18_2, rfl, HA, HJ2, ⟨mc2, rfl⟩⟩ := hcut
  cases kq with
  | zero => exact absurd HA.out (by simp [railplanref30_Vector.j0])
  | succ kj2 =>
   have H := HA.out
   clear HA
   simp only [railplanref30_Vector.j0] at H
   by_cases c6 : x18_2 = true
   ·subst c6
    have H1 : (some false) = some r := by rw [if_pos rfl] at H; exact H
    clear H
    have H := H1
    clear H1
    obtain rfl := Option.some.inj H
    go_wp2
    go_ret
    exact ⟨by first | rfl | (simp; done) | (simp [*]; done), by repeat (first | exact Drawn0.refl _ | apply Drawn0.step)⟩
   ·replace c6 := Bool.eq_false_iff.mpr c6
    subst c6
    have H1 : (railplanref30_Vector.l0 kj2 l1 (l1.length : Int) 0) = some r := by rw [if_neg (show ¬ (false = true) by decide)] at H; exact H
    clear H
    have H := H1
    clear H1
    have H' := Aside0.mk H
    clear H
    go_wp2
    go_loopg [21] kj2 (fun kq v21 w' => ∃ (x21_2 : Int), v21 = .int .i64 x21_2 ∧ Aside0 (railplanref30_Vector.l0 kq l1 (l1.length : Int) x21_2 = some r) ∧ Aside0 (kq ≤ kj2) ∧ Drawn0 w w')
    case atStart => exact ⟨(0), (by first | rfl | (simp; done) | (simp [*]; done)), H', ⟨Nat.le_refl _⟩, by repeat (first | exact Drawn0.refl _ | apply Drawn0.step)⟩
    case round =>
     clear H'
     try clear c1
     try clear c2
     try clear p2
     try clear c3
     try clear c4
     try clear c4b0
     try clear c4b1
     try clear c5
     try clear c5b0
     try clear c6
     try clear p2
     obtain ⟨x21_2, rfl, HA, HK2, ⟨m2, rfl⟩⟩ := hrel
     cases gk with
     | zero => exact absurd HA.out (by simp [railplanref30_Vector.l0])
     | succ k2 =>
      have H := HA.out
      clear HA
      simp only [railplanref30_Vector.l0] at H
      by_cases c7 : x21_2 < (l1.length : Int)
      ·rw [if_pos c7] at H
       have c7b0 : decide (x21_2 < (l1.length : Int)) = true := decide_eq_true c7
       clear c7
       by_cases c8 : 0 ≤ x21_2
       ·rw [if_pos c8] at H
        have c8b0 : decide (0 ≤ x21_2) = true := decide_eq_true c8
        clear c8
        by_cases c9 : x21_2 < (l1.length : Int)
        ·rw [if_pos c9] at H
         have c9b0 : decide (x21_2 < (l1.length : Int)) = true := decide_eq_true c9
         clear c9
         replace H := Option.bind_eq_some_iff.mp H
         obtain ⟨t253, A100, H⟩ := H
         replace H : (if t253 = true then (railplanref30_Vector.l0 k2 l1 (l1.length : Int) (wrap64 (x21_2 + 1))) else (some false)) = some r := H
         have A10 := Aside0.mk A100
         clear A100
         by_cases c11 : t253 = true
         ·subst c11
          have H1 : (railplanref30_Vector.l0 k2 l1 (l1.length : Int) (wrap64 (x21_2 + 1))) = some r := by rw [if_pos rfl] at H; exact H
          clear H
          have H := H1
          clear H1
          have H' := Aside0.mk H
          clear H
          have p252 : 0 ≤ (x21_2 : Int) := of_decide_eq_true (by first | (with_reducible assumption) | assumption)
          have q252 : x21_2 < (l1.length : Int) := of_decide_eq_true (by first | (with_reducible assumption) | assumption)
          obtain ⟨ad252, e252, hx252_0⟩ := Kd.at_int HR1.out x21_2 p252 q252
          cases e252
          replace p252 := eq_true p252
          replace q252 := eq_true q252
          go_wp2_with (first | ((with_reducible refine gate_callee (f := 53) rfl ?_); refine goesL_ (some 26) rfl rfl Try.func53 (by kernel_rfl) rfl #[.int .i64 (rd l1 x21_2)] rfl (by (try simp only [List.map_toArray, List.map_cons, List.map_nil]); first | done | rfl | (simp only [List.length_drop, List.length_take]; rfl)) ?_; (with_reducible refine (railplanref30_entry.calls (rd l1 x21_2) true _ A10.out).mono ?_); rintro e w' ⟨rfl, ⟨nd, rfl⟩⟩; refine ⟨_, rfl, ?_⟩))
          go_roundg k2
          case measure => have := HJ2.out; have := HK2.out; omega
          case rel => exact ⟨(wrap64 (x21_2 + 1)), (by first | rfl | (simp; done) | (simp [*]; done)), H', ⟨by have := HJ2.out; have := HK2.out; omega⟩, by repeat (first | exact Drawn0.refl _ | apply Drawn0.step)⟩
         ·replace c11 := Bool.eq_false_iff.mpr c11
          subst c11
          have H1 : (some false) = some r := by rw [if_neg (show ¬ (false = true) by decide)] at H; exact H
          clear H
          have H := H1
          clear H1
          obtain rfl := Option.some.inj H
          have p252 : 0 ≤ (x21_2 : Int) := of_decide_eq_true (by first | (with_reducible assumption) | assumption)
          have q252 : x21_2 < (l1.length : Int) := of_decide_eq_true (by first | (with_reducible assumption) | assumption)
          obtain ⟨ad252, e252, hx252_0⟩ := Kd.at_int HR1.out x21_2 p252 q252
          cases e252
          replace p252 := eq_true p252
          replace q252 := eq_true q252
          go_wp2_with (first | ((with_reducible refine gate_callee (f := 53) rfl ?_); refine goesL_ (some 26) rfl rfl Try.func53 (by kernel_rfl) rfl #[.int .i64 (rd l1 x21_2)] rfl (by (try simp only [List.map_toArray, List.map_cons, List.map_nil]); first | done | rfl | (simp only [List.length_drop, List.length_take]; rfl)) ?_; (with_reducible refine (railplanref30_entry.calls (rd l1 x21_2) false _ A10.out).mono ?_); rintro e w' ⟨rfl, ⟨nd, rfl⟩⟩; refine ⟨_, rfl, ?_⟩))
          go_ret
          exact ⟨by first | rfl | (simp; done) | (simp [*]; done), by repeat (first | exact Drawn0.refl _ | apply Drawn0.step)⟩
        ·rw [if_neg c9] at H
         exact absurd H (by simp)
       ·rw [if_neg c8] at H
        exact absurd H (by simp)
      ·rw [if_neg c7] at H
       have c7b0 : decide (x21_2 < (l1.length : Int)) = false := decide_eq_false c7
       clear c7
       obtain rfl := Option.some.inj H
       go_wp2
       go_ret
       exact ⟨by first | rfl | (simp; done) | (simp [*]; done), by repeat (first | exact Drawn0.refl _ | apply Drawn0.step)⟩

/-! ### railplanref30_CheckMatrix: function 31 -/
mutual
def railplanref30_CheckMatrix.j0 : Nat → List (List Int) → Int → Bool → Option (Bool)
 | 0, _, _, _ => none
 | k + 1, x0, x3, x13 => if x13 = true then (some false) else (railplanref30_CheckMatrix.l0 k x3 x0 (x0.length : Int) 0)
def railplanref30_CheckMatrix.l0 : Nat → Int → List (List Int) → Int → Int → Option (Bool)
 | 0, _, _, _, _ => none
 | k + 1, x3, x14, x15, x16 => if x16 < x15 then (if 0 ≤ x16 then (if x16 < (x14.length : Int) then ((railplanref30_Vector.f k x3 (rd_L1 x14 x16)).bind fun t255 => (if t255 = true then (railplanref30_CheckMatrix.l0 k x3 x14 x15 (wrap64 (x16 + 1))) else (some false))) else (none)) else (none)) else (some true)
end
def railplanref30_CheckMatrix.f (k : Nat) (l0 : List (List Int)) : Option (Bool) := if (l0.length : Int) < 1 then (railplanref30_CheckMatrix.j0 k l0 (l0.length : Int) true) else (railplanref30_CheckMatrix.j0 k l0 (l0.length : Int) (decide ((l0.length : Int) > 12)))
theorem railplanref30_CheckMatrix.mono_l : ∀ k, (∀ y0 y1 y2, LeO (railplanref30_CheckMatrix.j0 k y0 y1 y2) (railplanref30_CheckMatrix.j0 (k + 1) y0 y1 y2)) ∧ (∀ y0 y1 y2 y3, LeO (railplanref30_CheckMatrix.l0 k y0 y1 y2 y3) (railplanref30_CheckMatrix.l0 (k + 1) y0 y1 y2 y3))
 | 0 => ⟨fun _ _ _ r h => by simp [railplanref30_CheckMatrix.j0] at h, fun _ _ _ _ r h => by simp [railplanref30_CheckMatrix.l0] at h⟩
 | k + 1 => by
  obtain ⟨ih0, ih1⟩ := railplanref30_CheckMatrix.mono_l k
  refine ⟨?_, ?_⟩
  ·intro y0 y1 y2
   unfold railplanref30_CheckMatrix.j0
   repeat' first
   | (with_reducible exact ih0 _ _ _)
   | (with_reducible exact ih1 _ _ _ _)
   | (with_reducible exact railplanref30_Vector.mono _ _ _)
   | (with_reducible exact LeO.refl _)
   | (with_reducible exact LeO.none _)
   | (with_reducible refine LeO.ite ?_ ?_)
   | (with_reducible refine LeO.bind ?_ (fun _ => ?_))
   | exact ih0 _ _ _
   | exact ih1 _ _ _ _
   | exact railplanref30_Vector.mono _ _ _
   | exact LeO.none _
   | refine LeO.ite ?_ ?_
   | refine LeO.bind ?_ (fun _ => ?_)
  ·intro y0 y1 y2 y3
   unfold railplanref30_CheckMatrix.l0
   repeat' first
   | (with_reducible exact ih0 _ _ _)
   | (with_reducible exact ih1 _ _ _ _)
   | (with_reducible exact railplanref30_Vector.mono _ _ _)
   | (with_reducible exact LeO.refl _)
   | (with_reducible exact LeO.none _)
   | (with_reducible refine LeO.ite ?_ ?_)
   | (with_reducible refine LeO.bind ?_ (fun _ => ?_))
   | exact ih0 _ _ _
   | exact ih1 _ _ _ _
   | exact railplanref30_Vector.mono _ _ _
   | exact LeO.none _
   | refine LeO.ite ?_ ?_
   | refine LeO.bind ?_ (fun _ => ?_)
theorem railplanref30_CheckMatrix.mono : ∀ a0 k, LeO (railplanref30_CheckMatrix.f k a0) (railplanref30_CheckMatrix.f (k + 1) a0) := by
 intro a0 k
 obtain ⟨ih0, ih1⟩ := railplanref30_CheckMatrix.mono_l k
 unfold railplanref30_CheckMatrix.f
 repeat' first
   | (with_reducible exact ih0 _ _ _)
   | (with_reducible exact ih1 _ _ _ _)
   | (with_reducible exact railplanref30_Vector.mono _ _ _)
   | (with_reducible exact LeO.refl _)
   | (with_reducible exact LeO.none _)
   | (with_reducible refine LeO.ite ?_ ?_)
   | (with_reducible refine LeO.bind ?_ (fun _ => ?_))
   | exact ih0 _ _ _
   | exact ih1 _ _ _ _
   | exact railplanref30_Vector.mono _ _ _
   | exact LeO.none _
   | refine LeO.ite ?_ ?_
   | refine LeO.bind ?_ (fun _ => ?_)
set_option maxHeartbeats 8000000 in
set_option maxRecDepth 100000 in
theorem railplanref30_CheckMatrix.calls (k : Nat) (A0 : Option Addr) (c0 : Nat) (l0 : List (List Int)) (r : Bool) (w : World) (hr0 : Kd.C (Kd.slice 3 (Kd.int .i64)) w A0 l0.length l0) (hc0 : l0.length ≤ c0) (h : railplanref30_CheckMatrix.f k l0 = some r) :
  Calls Try.prog 31 #[.slice A0 l0.length c0] w fun e w' => e = .returned (.bool r) ∧ Drawn0 w w' := by
 have HR0 := Aside0.mk hr0
 have HC0 := Aside0.mk hc0
 clear hr0 hc0
 have H : (if (l0.length : Int) < 1 then (railplanref30_CheckMatrix.j0 k l0 (l0.length : Int) true) else (railplanref30_CheckMatrix.j0 k l0 (l0.length : Int) (decide ((l0.length : Int) > 12)))) = some r := h
 clear h
 have HC2 := Aside0.mk H
 clear H
 go_enter Try.func31, Try.ntmps31
 go_upto_region 2 with (fail)
 go_cut [13] (fun v13 wc => ∃ (kq : Nat) (x13_1 : Bool), v13 = .bool x13_1 ∧ Aside0 (railplanref30_CheckMatrix.j0 kq l0 (l0.length : Int) x13_1 = some r) ∧ Aside0 (kq ≤ k) ∧ Drawn0 w wc)
 case first =>
  have H := HC2.out
  clear HC2
  by_cases c3 : (l0.length : Int) < 1
  ·rw [if_pos c3] at H
   have c3b0 : decide ((l0.length : Int) < 1) = true := decide_eq_true c3
   have c3b1 : decide (l0.length < 1) = true := decide_eq_true (by omega)
   clear c3
   (first | rw [c3b0] | (simp only [i64_w, i32_w]; rw [c3b0]) | skip)
   have H' := Aside0.mk H
   clear H
   go_wp2
   go_meet
   case rel => exact ⟨_, (true), (by first | rfl | (simp; done) | (simp [*]; done)), H', ⟨by first | omega | exact Nat.le_refl _⟩, by repeat (first | exact Drawn0.refl _ | apply Drawn0.step)⟩
  ·rw [if_neg c3] at H
   have c3b0 : decide ((l0.length : Int) < 1) = false := decide_eq_false c3
   have c3b1 : decide (l0.length < 1) = false := decide_eq_false (by omega)
   clear c3
   (first | rw [c3b0] | (simp only [i64_w, i32_w]; rw [c3b0]) | skip)
   have H' := Aside0.mk H
   clear H
   go_wp2
   go_meet
   case rel => exact ⟨_, (decide ((l0.length : Int) > 12)), (by first | rfl | (simp; done) | (simp [*]; done)), H', ⟨by first | omega | exact Nat.le_refl _⟩, by repeat (first | exact Drawn0.refl _ | apply Drawn0.step)⟩
 case rest =>
  clear HC2
  try clear p2
  try clear c3
  try clear c3b0
  try clear c3b1
  obtain ⟨kq, x13_1, rfl, HA, HJ1, ⟨mc1, rfl⟩⟩ := hcut
  cases kq with
  | zero => exact absurd HA.out (by simp [railplanref30_CheckMatrix.j0])
  | succ kj1 =>
   have H := HA.out
   clear HA
   simp only [railplanref30_CheckMatrix.j0] at H
   by_cases c4 : x13_1 = true
   ·subst c4
    have H1 : (some false) = some r := by rw [if_pos rfl] at H; exact H
    clear H
    have H := H1
    clear H1
    obtain rfl := Option.some.inj H
    go_wp2
    go_ret
    exact ⟨by first | rfl | (simp; done) | (simp [*]; done), by repeat (first | exact Drawn0.refl _ | apply Drawn0.step)⟩
   ·replace c4 := Bool.eq_false_iff.mpr c4
    subst c4
    have H1 : (railplanref30_CheckMatrix.l0 kj1 (l0.length : Int) l0 (l0.length : Int) 0) = some r := by rw [if_neg (show ¬ (false = true) by decide)] at H; exact H
    clear H
    have H := H1
    clear H1
    have H' := Aside0.mk H
    clear H
    go_wp2
    go_loopg [16] kj1 (fun kq v16 w' => ∃ (x16_2 : Int), v16 = .int .i64 x16_2 ∧ Aside0 (railplanref30_CheckMatrix.l0 kq (l0.length : Int) l0 (l0.length : Int) x16_2 = some r) ∧ Aside0 (kq ≤ kj1) ∧ Drawn0 w w')
    case atStart => exact ⟨(0), (by first | rfl | (simp; done) | (simp [*]; done)), H', ⟨Nat.le_refl _⟩, by repeat (first | exact Drawn0.refl _ | apply Drawn0.step)⟩
    case round =>
     clear H'
     try clear c1
     try clear p2
     try clear c3
     try clear c3b0
     try clear c3b1
     try clear c4
     try clear p2
     obtain ⟨x16_2, rfl, HA, HK2, ⟨m2, rfl⟩⟩ := hrel
     cases gk with
     | zero => exact absurd HA.out (by simp [railplanref30_CheckMatrix.l0])
     | succ k2 =>
      have H := HA.out
      clear HA
      simp only [railplanref30_CheckMatrix.l0] at H
      by_cases c5 : x16_2 < (l0.length : Int)
      ·rw [if_pos c5] at H
       have c5b0 : decide (x16_2 < (l0.length : Int)) = true := decide_eq_true c5
       clear c5
       by_cases c6 : 0 ≤ x16_2
       ·rw [if_pos c6] at H
        have c6b0 : decide (0 ≤ x16_2) = true := decide_eq_true c6
        clear c6
        by_cases c7 : x16_2 < (l0.length : Int)
        ·rw [if_pos c7] at H
         have c7b0 : decide (x16_2 < (l0.length : Int)) = true := decide_eq_true c7
         clear c7
         replace H := Option.bind_eq_some_iff.mp H
         obtain ⟨t255, A80, H⟩ := H
         replace H : (if t255 = true then (railplanref30_CheckMatrix.l0 k2 (l0.length : Int) l0 (l0.length : Int) (wrap64 (x16_2 + 1))) else (some false)) = some r := H
         have A8 := Aside0.mk A80
         clear A80
         by_cases c9 : t255 = true
         ·subst c9
          have H1 : (railplanref30_CheckMatrix.l0 k2 (l0.length : Int) l0 (l0.length : Int) (wrap64 (x16_2 + 1))) = some r := by rw [if_pos rfl] at H; exact H
          clear H
          have H := H1
          clear H1
          have H' := Aside0.mk H
          clear H
          have p254 : 0 ≤ (x16_2 : Int) := of_decide_eq_true (by first | (with_reducible assumption) | assumption)
          have q254 : x16_2 < (l0.length : Int) := of_decide_eq_true (by first | (with_reducible assumption) | assumption)
          obtain ⟨ad254, A254_0, c254_0, e254, hx254_0, hl254_0, hi254_0⟩ := at_L1 HR0.out x16_2 p254 q254
          cases e254
          have HR254_0 := Aside0.mk hi254_0
          have HC254_0 := Aside0.mk hl254_0
          clear hi254_0 hl254_0
          replace p254 := eq_true p254
          replace q254 := eq_true q254
          go_wp2_with (first | ((with_reducible refine gate_callee (f := 33) rfl ?_); refine goesL_ (some 22) rfl rfl Try.func33 (by kernel_rfl) rfl #[.int .i64 (l0.length : Int), .slice A254_0 (rd_L1 l0 x16_2).length c254_0] rfl (by (try simp only [List.map_toArray, List.map_cons, List.map_nil]); first | done | rfl | (simp only [List.length_drop, List.length_take]; rfl)) ?_; (with_reducible refine (railplanref30_Vector.calls k2 (l0.length : Int) _ _ (rd_L1 l0 x16_2) true _ ?side1 ?side2 A8.out).mono ?_); (case side1 => repeat (first | exact HR254_0.out | (with_reducible refine Kd.C_alloc ?_ _) | (with_reducible refine Kd.C_drewN ?_ _) | (with_reducible refine Kd.C_drew ?_))); (case side2 => exact HC254_0.out); rintro e w' ⟨rfl, ⟨nd, rfl⟩⟩; refine ⟨_, rfl, ?_⟩))
          go_roundg k2
          case measure => have := HJ1.out; have := HK2.out; omega
          case rel => exact ⟨(wrap64 (x16_2 + 1)), (by first | rfl | (simp; done) | (simp [*]; done)), H', ⟨by have := HJ1.out; have := HK2.out; omega⟩, by repeat (first | exact Drawn0.refl _ | apply Drawn0.step)⟩
         ·replace c9 := Bool.eq_false_iff.mpr c9
          subst c9
          have H1 : (some false) = some r := by rw [if_neg (show ¬ (false = true) by decide)] at H; exact H
          clear H
          have H := H1
          clear H1
          obtain rfl := Option.some.inj H
          have p254 : 0 ≤ (x16_2 : Int) := of_decide_eq_true (by first | (with_reducible assumption) | assumption)
          have q254 : x16_2 < (l0.length : Int) := of_decide_eq_true (by first | (with_reducible assumption) | assumption)
          obtain ⟨ad254, A254_0, c254_0, e254, hx254_0, hl254_0, hi254_0⟩ := at_L1 HR0.out x16_2 p254 q254
          cases e254
          have HR254_0 := Aside0.mk hi254_0
          have HC254_0 := Aside0.mk hl254_0
          clear hi254_0 hl254_0
          replace p254 := eq_true p254
          replace q254 := eq_true q254
          go_wp2_with (first | ((with_reducible refine gate_callee (f := 33) rfl ?_); refine goesL_ (some 22) rfl rfl Try.func33 (by kernel_rfl) rfl #[.int .i64 (l0.length : Int), .slice A254_0 (rd_L1 l0 x16_2).length c254_0] rfl (by (try simp only [List.map_toArray, List.map_cons, List.map_nil]); first | done | rfl | (simp only [List.length_drop, List.length_take]; rfl)) ?_; (with_reducible refine (railplanref30_Vector.calls k2 (l0.length : Int) _ _ (rd_L1 l0 x16_2) false _ ?side1 ?side2 A8.out).mono ?_); (case side1 => repeat (first | exact HR254_0.out | (with_reducible refine Kd.C_alloc ?_ _) | (with_reducible refine Kd.C_drewN ?_ _) | (with_reducible refine Kd.C_drew ?_))); (case side2 => exact HC254_0.out); rintro e w' ⟨rfl, ⟨nd, rfl⟩⟩; refine ⟨_, rfl, ?_⟩))
          go_ret
          exact ⟨by first | rfl | (simp; done) | (simp [*]; done), by repeat (first | exact Drawn0.refl _ | apply Drawn0.step)⟩
        ·rw [if_neg c7] at H
         exact absurd H (by simp)
       ·rw [if_neg c6] at H
        exact absurd H (by simp)
      ·rw [if_neg c5] at H
       have c5b0 : decide (x16_2 < (l0.length : Int)) = false := decide_eq_false c5
       clear c5
       obtain rfl := Option.some.inj H
       go_wp2
       go_ret
       exact ⟨by first | rfl | (simp; done) | (simp [*]; done), by repeat (first | exact Drawn0.refl _ | apply Drawn0.step)⟩

end Go.Proofs.Ytnmhdeibjglhcaa.XAll
