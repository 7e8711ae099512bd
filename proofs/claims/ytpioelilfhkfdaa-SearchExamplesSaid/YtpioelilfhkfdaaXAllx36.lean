-- This session's own text, written by wip/tools/xall.py after the form of the kit's print.
import Derived.Test.YtpioelilfhkfdaaXAllx0
import Derived.Test.YtpioelilfhkfdaaXAllx20
import Derived.Test.YtpioelilfhkfdaaXAllx27
import Derived.Test.YtpioelilfhkfdaaXAllx34
import Derived.Test.YtpioelilfhkfdaaXAllx35
namespace Go.Proofs.Ytpioelilfhkfdaa.XAll
open Go.RowKit Go.Proofs.YtpioelilfhkfdaaW.PrintWords Go.Proofs.YtpioelilfhkfdaaW.PrintLast Go.Proofs.YtpioelilfhkfdaaW.PrintMore
attribute [local go_sem] max2_int min2_int max_two min_two max_three min_three max_four min_four   -- for this text's walks alone
set_option linter.unusedVariables false
set_option linter.unusedSimpArgs false

/-! ### railplanlaw17_SearchExamples: function 4 -/
def railplanlaw17_SearchExamples.f (k : Nat)  : Option (Bool) := (railplanlaw17_small.f).bind fun bt232 => ((search_Solve.f k bt232.1 bt232.2.1 bt232.2.2 100).bind fun bt239 => ((railplanlaw17_small.f).bind fun bt245 => ((search_Feasible.f k bt245.1 bt245.2.1 bt245.2.2 100).bind fun bt252 => (if bt239.2.2.2 = 0 then (if bt252.2.2 = 0 then ((railplankeep_Same_int.f k bt239.1 (([0, 1] : List Int))).bind fun t260 => (if t260 = true then (if bt239.2.1 = 1 then (if bt239.2.2.1 = 4 then ((railplankeep_Same_int.f k bt252.1 (([0, 1] : List Int))).bind fun t264 => (if t264 = true then (some (bt252.2.1 == 3)) else (some false))) else (some false)) else (some false)) else (some false))) else (some false)) else (some false)))))
theorem railplanlaw17_SearchExamples.mono : ∀ k, LeO (railplanlaw17_SearchExamples.f k ) (railplanlaw17_SearchExamples.f (k + 1) ) := by
 intro  k
 unfold railplanlaw17_SearchExamples.f
 repeat' first
   | (with_reducible exact railplankeep_Same_int.mono _ _ _)
   | (with_reducible exact search_Feasible.mono _ _ _ _ _)
   | (with_reducible exact search_Solve.mono _ _ _ _ _)
   | (with_reducible exact LeO.refl _)
   | (with_reducible exact LeO.none _)
   | (with_reducible refine LeO.ite ?_ ?_)
   | (with_reducible refine LeO.bind ?_ (fun _ => ?_))
   | exact railplankeep_Same_int.mono _ _ _
   | exact search_Feasible.mono _ _ _ _ _
   | exact search_Solve.mono _ _ _ _ _
   | exact LeO.none _
   | refine LeO.ite ?_ ?_
   | refine LeO.bind ?_ (fun _ => ?_)
set_option maxHeartbeats 8000000 in
set_option maxRecDepth 100000 in
theorem railplanlaw17_SearchExamples.calls (k : Nat)  (r : Bool) (w : World) (h : railplanlaw17_SearchExamples.f k  = some r) (hT : Aside0 (r = true)) :
  Calls Try.prog 4 #[] w fun e w' => e = .returned (.bool r) ∧ Below w.heap.size w w' := by
 have HB := Aside0.mk (Below.refl w.heap.size w)
 have H : ((railplanlaw17_small.f).bind fun bt232 => ((search_Solve.f k bt232.1 bt232.2.1 bt232.2.2 100).bind fun bt239 => ((railplanlaw17_small.f).bind fun bt245 => ((search_Feasible.f k bt245.1 bt245.2.1 bt245.2.2 100).bind fun bt252 => (if bt239.2.2.2 = 0 then (if bt252.2.2 = 0 then ((railplankeep_Same_int.f k bt239.1 (([0, 1] : List Int))).bind fun t260 => (if t260 = true then (if bt239.2.1 = 1 then (if bt239.2.2.1 = 4 then ((railplankeep_Same_int.f k bt252.1 (([0, 1] : List Int))).bind fun t264 => (if t264 = true then (some (bt252.2.1 == 3)) else (some false))) else (some false)) else (some false)) else (some false))) else (some false)) else (some false)))))) = some r := h
 clear h
 replace H := Option.bind_eq_some_iff.mp H
 obtain ⟨⟨t232, t233, t236⟩, A10, H⟩ := H
 replace H : ((search_Solve.f k t232 t233 t236 100).bind fun bt239 => ((railplanlaw17_small.f).bind fun bt245 => ((search_Feasible.f k bt245.1 bt245.2.1 bt245.2.2 100).bind fun bt252 => (if bt239.2.2.2 = 0 then (if bt252.2.2 = 0 then ((railplankeep_Same_int.f k bt239.1 (([0, 1] : List Int))).bind fun t260 => (if t260 = true then (if bt239.2.1 = 1 then (if bt239.2.2.1 = 4 then ((railplankeep_Same_int.f k bt252.1 (([0, 1] : List Int))).bind fun t264 => (if t264 = true then (some (bt252.2.1 == 3)) else (some false))) else (some false)) else (some false)) else (some false))) else (some false)) else (some false))))) = some r := H
 have A1 := Aside0.mk A10
 clear A10
 replace H := Option.bind_eq_some_iff.mp H
 obtain ⟨⟨t239, t242, t243, t244⟩, A20, H⟩ := H
 replace H : ((railplanlaw17_small.f).bind fun bt245 => ((search_Feasible.f k bt245.1 bt245.2.1 bt245.2.2 100).bind fun bt252 => (if t244 = 0 then (if bt252.2.2 = 0 then ((railplankeep_Same_int.f k t239 (([0, 1] : List Int))).bind fun t260 => (if t260 = true then (if t242 = 1 then (if t243 = 4 then ((railplankeep_Same_int.f k bt252.1 (([0, 1] : List Int))).bind fun t264 => (if t264 = true then (some (bt252.2.1 == 3)) else (some false))) else (some false)) else (some false)) else (some false))) else (some false)) else (some false)))) = some r := H
 have A2 := Aside0.mk A20
 clear A20
 replace H := Option.bind_eq_some_iff.mp H
 obtain ⟨⟨t245, t246, t249⟩, A30, H⟩ := H
 replace H : ((search_Feasible.f k t245 t246 t249 100).bind fun bt252 => (if t244 = 0 then (if bt252.2.2 = 0 then ((railplankeep_Same_int.f k t239 (([0, 1] : List Int))).bind fun t260 => (if t260 = true then (if t242 = 1 then (if t243 = 4 then ((railplankeep_Same_int.f k bt252.1 (([0, 1] : List Int))).bind fun t264 => (if t264 = true then (some (bt252.2.1 == 3)) else (some false))) else (some false)) else (some false)) else (some false))) else (some false)) else (some false))) = some r := H
 have A3 := Aside0.mk A30
 clear A30
 replace H := Option.bind_eq_some_iff.mp H
 obtain ⟨⟨t252, t255, t256⟩, A40, H⟩ := H
 replace H : (if t244 = 0 then (if t256 = 0 then ((railplankeep_Same_int.f k t239 (([0, 1] : List Int))).bind fun t260 => (if t260 = true then (if t242 = 1 then (if t243 = 4 then ((railplankeep_Same_int.f k t252 (([0, 1] : List Int))).bind fun t264 => (if t264 = true then (some (t255 == 3)) else (some false))) else (some false)) else (some false)) else (some false))) else (some false)) else (some false)) = some r := H
 have A4 := Aside0.mk A40
 clear A40
 by_cases c5 : t244 = 0
 ·rw [if_pos c5] at H
  have c5b0 : (t244 == 0) = true := beq_iff_eq.mpr c5
  have c5b1 : (t244 != 0) = false := bne_eq_false_iff_eq.mpr c5
  clear c5
  by_cases c6 : t256 = 0
  ·rw [if_pos c6] at H
   have c6b0 : (t256 == 0) = true := beq_iff_eq.mpr c6
   have c6b1 : (t256 != 0) = false := bne_eq_false_iff_eq.mpr c6
   clear c6
   obtain ⟨y257, hy257⟩ : ∃ y_ : List Int, y_ = (([0, 1] : List Int)) := ⟨_, rfl⟩
   replace H : ((railplankeep_Same_int.f k t239 y257).bind fun t260 => (if t260 = true then (if t242 = 1 then (if t243 = 4 then ((railplankeep_Same_int.f k t252 (([0, 1] : List Int))).bind fun t264 => (if t264 = true then (some (t255 == 3)) else (some false))) else (some false)) else (some false)) else (some false))) = some r := by first | (rw [hy257]; with_reducible exact H) | (have H2_ := (Option.bind_some _ _).symm.trans H; rw [hy257]; with_reducible exact H2_) | (have H2_ := (Option.bind_some _ _).symm.trans H; with_reducible exact H2_) | with_reducible exact H | (rw [hy257]; exact H) | exact H
   have Ny257 := Aside0.mk hy257
   clear hy257
   replace H := Option.bind_eq_some_iff.mp H
   obtain ⟨t260, A70, H⟩ := H
   replace H : (if t260 = true then (if t242 = 1 then (if t243 = 4 then ((railplankeep_Same_int.f k t252 (([0, 1] : List Int))).bind fun t264 => (if t264 = true then (some (t255 == 3)) else (some false))) else (some false)) else (some false)) else (some false)) = some r := H
   have A7 := Aside0.mk A70
   clear A70
   by_cases c8 : t260 = true
   ·subst c8
    have H1 : (if t242 = 1 then (if t243 = 4 then ((railplankeep_Same_int.f k t252 (([0, 1] : List Int))).bind fun t264 => (if t264 = true then (some (t255 == 3)) else (some false))) else (some false)) else (some false)) = some r := by rw [if_pos rfl] at H; exact H
    clear H
    have H := H1
    clear H1
    by_cases c9 : t242 = 1
    ·rw [if_pos c9] at H
     have c9b0 : (t242 == 1) = true := beq_iff_eq.mpr c9
     have c9b1 : (t242 != 1) = false := bne_eq_false_iff_eq.mpr c9
     clear c9
     by_cases c10 : t243 = 4
     ·rw [if_pos c10] at H
      have c10b0 : (t243 == 4) = true := beq_iff_eq.mpr c10
      have c10b1 : (t243 != 4) = false := bne_eq_false_iff_eq.mpr c10
      clear c10
      obtain ⟨y261, hy261⟩ : ∃ y_ : List Int, y_ = (([0, 1] : List Int)) := ⟨_, rfl⟩
      replace H : ((railplankeep_Same_int.f k t252 y261).bind fun t264 => (if t264 = true then (some (t255 == 3)) else (some false))) = some r := by first | (rw [hy261]; with_reducible exact H) | (have H2_ := (Option.bind_some _ _).symm.trans H; rw [hy261]; with_reducible exact H2_) | (have H2_ := (Option.bind_some _ _).symm.trans H; with_reducible exact H2_) | with_reducible exact H | (rw [hy261]; exact H) | exact H
      have Ny261 := Aside0.mk hy261
      clear hy261
      replace H := Option.bind_eq_some_iff.mp H
      obtain ⟨t264, A110, H⟩ := H
      replace H : (if t264 = true then (some (t255 == 3)) else (some false)) = some r := H
      have A11 := Aside0.mk A110
      clear A110
      by_cases c12 : t264 = true
      ·subst c12
       have H1 : (some (t255 == 3)) = some r := by rw [if_pos rfl] at H; exact H
       clear H
       have H := H1
       clear H1
       obtain rfl := Option.some.inj H
       go_enter Try.func4, Try.ntmps4
       go_wp2_with (first | ((with_reducible refine gate_callee (f := 19) rfl ?_); refine goesL_ (some 9) rfl rfl Try.func19 (by kernel_rfl) rfl #[] rfl (by (try simp only [List.map_toArray, List.map_cons, List.map_nil]); first | done | rfl | (simp only [List.length_drop, List.length_take]; rfl)) ?_; (with_reducible refine (railplanlaw17_small.calls  t232 t233 t236 _ A1.out).mono ?_); rintro e w13 ⟨v234, v237, rfl, ho0, ho1, hb⟩; refine ⟨_, rfl, ?_⟩; have n0_ := Aside0.mk (Kd.R_lower ho0 (below_size (by repeat (first | (with_reducible first | exact HB.out | apply below_alloc | apply pw_below_drewN | apply below_drew1) | exact HB.out)))); have n1_ := Aside0.mk (Kd.R_lower ho1 (below_size (by repeat (first | (with_reducible first | exact HB.out | apply below_alloc | apply pw_below_drewN | apply below_drew1) | exact HB.out)))); have n2_ := Aside0.mk (below_step (by repeat (first | (with_reducible first | exact HB.out | apply below_alloc | apply pw_below_drewN | apply below_drew1) | exact HB.out)) hb); clear HB; have HO235 := n0_; have HO238 := n1_; have HB := n2_; clear n0_ n1_ n2_; (try clear hb); (try clear hb2); (try clear hk); (try clear hi); (try clear ho0); (try clear ho1); obtain ⟨Ao14, co14, eo14⟩ := Kd.R_slice HO235.out; subst eo14; obtain ⟨Ao15, co15, eo15⟩ := Kd.R_slice HO238.out; subst eo15) | ((with_reducible refine gate_callee (f := 18) rfl ?_); refine goesL_ (some 10) rfl rfl Try.func18 (by kernel_rfl) rfl #[.agg #[.int .i64 t232, .slice Ao14 t233.length co14, .slice Ao15 t236.length co15], .int .i64 100] rfl (by (try simp only [List.map_toArray, List.map_cons, List.map_nil]); first | done | rfl | (simp only [List.length_drop, List.length_take]; rfl)) ?_; (with_reducible refine (search_Solve.calls k t232 _ _ t233 _ _ t236 100 t239 t242 t243 t244 _ ?side1 ?side2 ?side3 ?side4 A2.out).mono ?_); (case side1 => repeat (first | exact (Kd.R_reads' HO235.out).2.2 | (with_reducible refine Kd.C_alloc ?_ _) | (with_reducible refine Kd.C_drewN ?_ _) | (with_reducible refine Kd.C_drew ?_))); (case side2 => exact (Kd.R_reads' HO235.out).2.1); (case side3 => repeat (first | exact (Kd.R_reads' HO238.out).2.2 | (with_reducible refine Kd.C_alloc ?_ _) | (with_reducible refine Kd.C_drewN ?_ _) | (with_reducible refine Kd.C_drew ?_))); (case side4 => exact (Kd.R_reads' HO238.out).2.1); rintro e w16 ⟨v240, rfl, ho0, hb⟩; refine ⟨_, rfl, ?_⟩; have n0_ := Aside0.mk (Kd.R_below (by (with_reducible repeat (first | apply Kd.R_alloc | apply Kd.R_drewN | apply Kd.R_drew)); exact HO235.out) hb); have n1_ := Aside0.mk (Kd.R_below (by (with_reducible repeat (first | apply Kd.R_alloc | apply Kd.R_drewN | apply Kd.R_drew)); exact HO238.out) hb); have n2_ := Aside0.mk (Kd.R_lower ho0 (below_size (by repeat (first | (with_reducible first | exact HB.out | apply below_alloc | apply pw_below_drewN | apply below_drew1) | exact HB.out)))); have n3_ := Aside0.mk (below_step (by repeat (first | (with_reducible first | exact HB.out | apply below_alloc | apply pw_below_drewN | apply below_drew1) | exact HB.out)) hb); clear HO235; clear HO238; clear HB; have HO235 := n0_; have HO238 := n1_; have HO241 := n2_; have HB := n3_; clear n0_ n1_ n2_ n3_; (try clear hb); (try clear hb2); (try clear hk); (try clear hi); (try clear ho0)) | ((with_reducible refine gate_callee (f := 19) rfl ?_); refine goesL_ (some 16) rfl rfl Try.func19 (by kernel_rfl) rfl #[] rfl (by (try simp only [List.map_toArray, List.map_cons, List.map_nil]); first | done | rfl | (simp only [List.length_drop, List.length_take]; rfl)) ?_; (with_reducible refine (railplanlaw17_small.calls  t245 t246 t249 _ A3.out).mono ?_); rintro e w17 ⟨v247, v250, rfl, ho0, ho1, hb⟩; refine ⟨_, rfl, ?_⟩; have n0_ := Aside0.mk (Kd.R_elder' (by (with_reducible repeat (first | apply Kd.R_alloc | apply Kd.R_drewN | apply Kd.R_drew)); exact HO235.out) (by first | exact Kd.N_base ho0 | exact Kd.S_base ho0 | exact Kd.R_base ho0 | exact Kd.Q_base ho0) hb); have n1_ := Aside0.mk (Kd.R_elder' (by (with_reducible repeat (first | apply Kd.R_alloc | apply Kd.R_drewN | apply Kd.R_drew)); exact HO238.out) (by first | exact Kd.N_base ho1 | exact Kd.S_base ho1 | exact Kd.R_base ho1 | exact Kd.Q_base ho1) hb); have n2_ := Aside0.mk (Kd.R_below (by (with_reducible repeat (first | apply Kd.R_alloc | apply Kd.R_drewN | apply Kd.R_drew)); exact HO241.out) hb); have n3_ := Aside0.mk (Kd.R_lower (Kd.R_new' ho0 (Kd.R_lt (by (with_reducible repeat (first | apply Kd.R_alloc | apply Kd.R_drewN | apply Kd.R_drew)); exact HO235.out))) (below_size (by repeat (first | (with_reducible first | exact HB.out | apply below_alloc | apply pw_below_drewN | apply below_drew1) | exact HB.out)))); have n4_ := Aside0.mk (Kd.R_lower (Kd.R_new' ho1 (Kd.R_lt (by (with_reducible repeat (first | apply Kd.R_alloc | apply Kd.R_drewN | apply Kd.R_drew)); exact HO238.out))) (below_size (by repeat (first | (with_reducible first | exact HB.out | apply below_alloc | apply pw_below_drewN | apply below_drew1) | exact HB.out)))); have n5_ := Aside0.mk (below_step (by repeat (first | (with_reducible first | exact HB.out | apply below_alloc | apply pw_below_drewN | apply below_drew1) | exact HB.out)) hb); clear HO235; clear HO238; clear HO241; clear HB; have HO235 := n0_; have HO238 := n1_; have HO241 := n2_; have HO248 := n3_; have HO251 := n4_; have HB := n5_; clear n0_ n1_ n2_ n3_ n4_ n5_; (try clear hb); (try clear hb2); (try clear hk); (try clear hi); (try clear ho0); (try clear ho1); obtain ⟨Ao18, co18, eo18⟩ := Kd.R_slice HO248.out; subst eo18; obtain ⟨Ao19, co19, eo19⟩ := Kd.R_slice HO251.out; subst eo19) | ((with_reducible refine gate_callee (f := 13) rfl ?_); refine goesL_ (some 17) rfl rfl Try.func13 (by kernel_rfl) rfl #[.agg #[.int .i64 t245, .slice Ao18 t246.length co18, .slice Ao19 t249.length co19], .int .i64 100] rfl (by (try simp only [List.map_toArray, List.map_cons, List.map_nil]); first | done | rfl | (simp only [List.length_drop, List.length_take]; rfl)) ?_; (with_reducible refine (search_Feasible.calls k t245 _ _ t246 _ _ t249 100 t252 t255 t256 _ ?side1 ?side2 ?side3 ?side4 A4.out).mono ?_); (case side1 => repeat (first | exact (Kd.R_reads' HO248.out).2.2 | (with_reducible refine Kd.C_alloc ?_ _) | (with_reducible refine Kd.C_drewN ?_ _) | (with_reducible refine Kd.C_drew ?_))); (case side2 => exact (Kd.R_reads' HO248.out).2.1); (case side3 => repeat (first | exact (Kd.R_reads' HO251.out).2.2 | (with_reducible refine Kd.C_alloc ?_ _) | (with_reducible refine Kd.C_drewN ?_ _) | (with_reducible refine Kd.C_drew ?_))); (case side4 => exact (Kd.R_reads' HO251.out).2.1); rintro e w20 ⟨v253, rfl, ho0, hb⟩; refine ⟨_, rfl, ?_⟩; have n0_ := Aside0.mk (Kd.R_below (by (with_reducible repeat (first | apply Kd.R_alloc | apply Kd.R_drewN | apply Kd.R_drew)); exact HO235.out) hb); have n1_ := Aside0.mk (Kd.R_below (by (with_reducible repeat (first | apply Kd.R_alloc | apply Kd.R_drewN | apply Kd.R_drew)); exact HO238.out) hb); have n2_ := Aside0.mk (Kd.R_elder' (by (with_reducible repeat (first | apply Kd.R_alloc | apply Kd.R_drewN | apply Kd.R_drew)); exact HO241.out) (by first | exact Kd.N_base ho0 | exact Kd.S_base ho0 | exact Kd.R_base ho0 | exact Kd.Q_base ho0) hb); have n3_ := Aside0.mk (Kd.R_below (by (with_reducible repeat (first | apply Kd.R_alloc | apply Kd.R_drewN | apply Kd.R_drew)); exact HO248.out) hb); have n4_ := Aside0.mk (Kd.R_below (by (with_reducible repeat (first | apply Kd.R_alloc | apply Kd.R_drewN | apply Kd.R_drew)); exact HO251.out) hb); have n5_ := Aside0.mk (Kd.R_lower (Kd.R_new' ho0 (Kd.R_lt (by (with_reducible repeat (first | apply Kd.R_alloc | apply Kd.R_drewN | apply Kd.R_drew)); exact HO241.out))) (below_size (by repeat (first | (with_reducible first | exact HB.out | apply below_alloc | apply pw_below_drewN | apply below_drew1) | exact HB.out)))); have n6_ := Aside0.mk (below_step (by repeat (first | (with_reducible first | exact HB.out | apply below_alloc | apply pw_below_drewN | apply below_drew1) | exact HB.out)) hb); clear HO235; clear HO238; clear HO241; clear HO248; clear HO251; clear HB; have HO235 := n0_; have HO238 := n1_; have HO241 := n2_; have HO248 := n3_; have HO251 := n4_; have HO254 := n5_; have HB := n6_; clear n0_ n1_ n2_ n3_ n4_ n5_ n6_; (try clear hb); (try clear hb2); (try clear hk); (try clear hi); (try clear ho0)) | ((with_reducible refine gate_dst (N := 29) rfl ?_); (try (refine gate_guard (by rfl) ?_; dsimp only)); refine Kd.R_lit (Kd.int .i64) _ 3 ?hg (N := 29) ?hd (xs := ([0, 1] : List Int)) (inner := [.int .i64 0, .int .i64 1]) (ok := fun _ => True) (okp := fun _ => True) ?hr ?hp (fun _ hk => hk) trivial (Below.refl _ _) (Nat.le_refl _) (by simp) ?_; (case hd => rfl); (case hg => rfl); (case hr => first | (go_simp; done) | (go_simp; rfl)); (case hp => exact (Reps.one (show Kd.M (Kd.int .i64) _ _ _ 0 [.int .i64 0] from rfl) (Reps.one (show Kd.M (Kd.int .i64) _ _ _ 1 [.int .i64 1] from rfl) (Reps.none _ _)))); intro v258 w21 ho22 hb hg_ hnew_; clear hg_ hnew_; (first | rw [← Ny257.out] at ho22 | (simp only [Int.reduceToNat] at ho22; rw [← Ny257.out] at ho22)); have n0_ := Aside0.mk (Kd.R_below (by (with_reducible repeat (first | apply Kd.R_alloc | apply Kd.R_drewN | apply Kd.R_drew)); exact HO235.out) hb); have n1_ := Aside0.mk (Kd.R_below (by (with_reducible repeat (first | apply Kd.R_alloc | apply Kd.R_drewN | apply Kd.R_drew)); exact HO238.out) hb); have n2_ := Aside0.mk (Kd.R_elder' (by (with_reducible repeat (first | apply Kd.R_alloc | apply Kd.R_drewN | apply Kd.R_drew)); exact HO241.out) (by first | exact Kd.N_base ho22 | exact Kd.S_base ho22 | exact Kd.R_base ho22 | exact Kd.Q_base ho22) hb); have n3_ := Aside0.mk (Kd.R_below (by (with_reducible repeat (first | apply Kd.R_alloc | apply Kd.R_drewN | apply Kd.R_drew)); exact HO248.out) hb); have n4_ := Aside0.mk (Kd.R_below (by (with_reducible repeat (first | apply Kd.R_alloc | apply Kd.R_drewN | apply Kd.R_drew)); exact HO251.out) hb); have n5_ := Aside0.mk (Kd.R_elder' (by (with_reducible repeat (first | apply Kd.R_alloc | apply Kd.R_drewN | apply Kd.R_drew)); exact HO254.out) (by first | exact Kd.N_base ho22 | exact Kd.S_base ho22 | exact Kd.R_base ho22 | exact Kd.Q_base ho22) hb); have n6_ := Aside0.mk (Kd.R_lower (Kd.R_new' (Kd.R_new' ho22 (Kd.R_lt (by (with_reducible repeat (first | apply Kd.R_alloc | apply Kd.R_drewN | apply Kd.R_drew)); exact HO241.out))) (Kd.R_lt (by (with_reducible repeat (first | apply Kd.R_alloc | apply Kd.R_drewN | apply Kd.R_drew)); exact HO254.out))) (below_size (by repeat (first | (with_reducible first | exact HB.out | apply below_alloc | apply pw_below_drewN | apply below_drew1) | exact HB.out)))); have n7_ := Aside0.mk (below_step (by repeat (first | (with_reducible first | exact HB.out | apply below_alloc | apply pw_below_drewN | apply below_drew1) | exact HB.out)) hb); clear HO235; clear HO238; clear HO241; clear HO248; clear HO251; clear HO254; clear HB; have HO235 := n0_; have HO238 := n1_; have HO241 := n2_; have HO248 := n3_; have HO251 := n4_; have HO254 := n5_; have HO259 := n6_; have HB := n7_; clear n0_ n1_ n2_ n3_ n4_ n5_ n6_ n7_; clear hb ho22; obtain ⟨Ao23, co23, eo23⟩ := Kd.R_slice HO241.out; subst eo23; obtain ⟨Ao24, co24, eo24⟩ := Kd.R_slice HO259.out; subst eo24) | (go_at_call 20; (with_reducible refine (railplankeep_Same_int.calls k _ _ t239 _ _ y257 true _ ?side1 ?side2 ?side3 ?side4 A7.out).mono ?_); (case side1 => repeat (first | exact (Kd.R_reads' HO241.out).2.2 | (with_reducible refine Kd.C_alloc ?_ _) | (with_reducible refine Kd.C_drewN ?_ _) | (with_reducible refine Kd.C_drew ?_))); (case side2 => exact (Kd.R_reads' HO241.out).2.1); (case side3 => repeat (first | exact (Kd.R_reads' HO259.out).2.2 | (with_reducible refine Kd.C_alloc ?_ _) | (with_reducible refine Kd.C_drewN ?_ _) | (with_reducible refine Kd.C_drew ?_))); (case side4 => exact (Kd.R_reads' HO259.out).2.1); rintro e w' ⟨rfl, ⟨nd, rfl⟩⟩) | ((with_reducible refine gate_dst (N := 42) rfl ?_); (try (refine gate_guard (by rfl) ?_; dsimp only)); refine Kd.R_lit (Kd.int .i64) _ 3 ?hg (N := 42) ?hd (xs := ([0, 1] : List Int)) (inner := [.int .i64 0, .int .i64 1]) (ok := fun _ => True) (okp := fun _ => True) ?hr ?hp (fun _ hk => hk) trivial (Below.refl _ _) (Nat.le_refl _) (by simp) ?_; (case hd => rfl); (case hg => rfl); (case hr => first | (go_simp; done) | (go_simp; rfl)); (case hp => exact (Reps.one (show Kd.M (Kd.int .i64) _ _ _ 0 [.int .i64 0] from rfl) (Reps.one (show Kd.M (Kd.int .i64) _ _ _ 1 [.int .i64 1] from rfl) (Reps.none _ _)))); intro v262 w25 ho26 hb hg_ hnew_; clear hg_ hnew_; (first | rw [← Ny261.out] at ho26 | (simp only [Int.reduceToNat] at ho26; rw [← Ny261.out] at ho26)); have n0_ := Aside0.mk (Kd.R_below (by (with_reducible repeat (first | apply Kd.R_alloc | apply Kd.R_drewN | apply Kd.R_drew)); exact HO235.out) hb); have n1_ := Aside0.mk (Kd.R_below (by (with_reducible repeat (first | apply Kd.R_alloc | apply Kd.R_drewN | apply Kd.R_drew)); exact HO238.out) hb); have n2_ := Aside0.mk (Kd.R_elder' (by (with_reducible repeat (first | apply Kd.R_alloc | apply Kd.R_drewN | apply Kd.R_drew)); exact HO241.out) (by first | exact Kd.N_base ho26 | exact Kd.S_base ho26 | exact Kd.R_base ho26 | exact Kd.Q_base ho26) hb); have n3_ := Aside0.mk (Kd.R_below (by (with_reducible repeat (first | apply Kd.R_alloc | apply Kd.R_drewN | apply Kd.R_drew)); exact HO248.out) hb); have n4_ := Aside0.mk (Kd.R_below (by (with_reducible repeat (first | apply Kd.R_alloc | apply Kd.R_drewN | apply Kd.R_drew)); exact HO251.out) hb); have n5_ := Aside0.mk (Kd.R_elder' (by (with_reducible repeat (first | apply Kd.R_alloc | apply Kd.R_drewN | apply Kd.R_drew)); exact HO254.out) (by first | exact Kd.N_base ho26 | exact Kd.S_base ho26 | exact Kd.R_base ho26 | exact Kd.Q_base ho26) hb); have n6_ := Aside0.mk (Kd.R_elder' (by (with_reducible repeat (first | apply Kd.R_alloc | apply Kd.R_drewN | apply Kd.R_drew)); exact HO259.out) (by first | exact Kd.N_base ho26 | exact Kd.S_base ho26 | exact Kd.R_base ho26 | exact Kd.Q_base ho26) hb); have n7_ := Aside0.mk (Kd.R_lower (Kd.R_new' (Kd.R_new' (Kd.R_new' ho26 (Kd.R_lt (by (with_reducible repeat (first | apply Kd.R_alloc | apply Kd.R_drewN | apply Kd.R_drew)); exact HO241.out))) (Kd.R_lt (by (with_reducible repeat (first | apply Kd.R_alloc | apply Kd.R_drewN | apply Kd.R_drew)); exact HO254.out))) (Kd.R_lt (by (with_reducible repeat (first | apply Kd.R_alloc | apply Kd.R_drewN | apply Kd.R_drew)); exact HO259.out))) (below_size (by repeat (first | (with_reducible first | exact HB.out | apply below_alloc | apply pw_below_drewN | apply below_drew1) | exact HB.out)))); have n8_ := Aside0.mk (below_step (by repeat (first | (with_reducible first | exact HB.out | apply below_alloc | apply pw_below_drewN | apply below_drew1) | exact HB.out)) hb); clear HO235; clear HO238; clear HO241; clear HO248; clear HO251; clear HO254; clear HO259; clear HB; have HO235 := n0_; have HO238 := n1_; have HO241 := n2_; have HO248 := n3_; have HO251 := n4_; have HO254 := n5_; have HO259 := n6_; have HO263 := n7_; have HB := n8_; clear n0_ n1_ n2_ n3_ n4_ n5_ n6_ n7_ n8_; clear hb ho26; obtain ⟨Ao27, co27, eo27⟩ := Kd.R_slice HO254.out; subst eo27; obtain ⟨Ao28, co28, eo28⟩ := Kd.R_slice HO263.out; subst eo28) | (go_at_call 20; (with_reducible refine (railplankeep_Same_int.calls k _ _ t252 _ _ y261 true _ ?side1 ?side2 ?side3 ?side4 A11.out).mono ?_); (case side1 => repeat (first | exact (Kd.R_reads' HO254.out).2.2 | (with_reducible refine Kd.C_alloc ?_ _) | (with_reducible refine Kd.C_drewN ?_ _) | (with_reducible refine Kd.C_drew ?_))); (case side2 => exact (Kd.R_reads' HO254.out).2.1); (case side3 => repeat (first | exact (Kd.R_reads' HO263.out).2.2 | (with_reducible refine Kd.C_alloc ?_ _) | (with_reducible refine Kd.C_drewN ?_ _) | (with_reducible refine Kd.C_drew ?_))); (case side4 => exact (Kd.R_reads' HO263.out).2.1); rintro e w' ⟨rfl, ⟨nd, rfl⟩⟩))
       go_ret
       exact ⟨by first | rfl | (simp [errW_none, errW_some] <;> rfl) | (simp [*, errW_none, errW_some] <;> rfl), by repeat (first | (with_reducible first | exact HB.out | apply below_alloc | apply pw_below_drewN | apply below_drew1) | exact HB.out)⟩
      ·replace c12 := Bool.eq_false_iff.mpr c12
       subst c12
       have H1 : (some false) = some r := by rw [if_neg (show ¬ (false = true) by decide)] at H; exact H
       clear H
       have H := H1
       clear H1
       exact absurd (Option.some.inj H) (by rw [hT.out]; decide)
     ·rw [if_neg c10] at H
      have c10b0 : (t243 == 4) = false := beq_eq_false_iff_ne.mpr c10
      have c10b1 : (t243 != 4) = true := bne_iff_ne.mpr c10
      exact absurd (Option.some.inj H) (by rw [hT.out]; decide)
    ·rw [if_neg c9] at H
     have c9b0 : (t242 == 1) = false := beq_eq_false_iff_ne.mpr c9
     have c9b1 : (t242 != 1) = true := bne_iff_ne.mpr c9
     exact absurd (Option.some.inj H) (by rw [hT.out]; decide)
   ·replace c8 := Bool.eq_false_iff.mpr c8
    subst c8
    have H1 : (some false) = some r := by rw [if_neg (show ¬ (false = true) by decide)] at H; exact H
    clear H
    have H := H1
    clear H1
    exact absurd (Option.some.inj H) (by rw [hT.out]; decide)
  ·rw [if_neg c6] at H
   have c6b0 : (t256 == 0) = false := beq_eq_false_iff_ne.mpr c6
   have c6b1 : (t256 != 0) = true := bne_iff_ne.mpr c6
   exact absurd (Option.some.inj H) (by rw [hT.out]; decide)
 ·rw [if_neg c5] at H
  have c5b0 : (t244 == 0) = false := beq_eq_false_iff_ne.mpr c5
  have c5b1 : (t244 != 0) = true := bne_iff_ne.mpr c5
  exact absurd (Option.some.inj H) (by rw [hT.out]; decide)

/-- THE ONE PURE STATEMENT of railplanlaw17_SearchExamples: yours. -/
def railplanlaw17_SearchExamples.Pure : Prop := ∃ k, railplanlaw17_SearchExamples.f k  = some true
theorem railplanlaw17_SearchExamples.walk (P : railplanlaw17_SearchExamples.Pure)  (w : World)  :
  Calls Try.prog 4 #[] w fun e w' => e = .returned (.bool true) ∧ Below w.heap.size w w' := by
 obtain ⟨k, h⟩ := P  
 refine (railplanlaw17_SearchExamples.calls k  true w h ⟨rfl⟩).mono ?_
 rintro e w' ⟨rfl, hd⟩
 exact ⟨rfl, hd⟩

end Go.Proofs.Ytpioelilfhkfdaa.XAll
