-- This session's own text, written by wip/tools/xall.py after the form of the kit's print.
import Derived.Test.YtnmhdeibjglhcaaXAllx0
import Derived.Test.YtnmhdeibjglhcaaXAllx10
import Derived.Test.YtnmhdeibjglhcaaXAllx14
import Derived.Test.YtnmhdeibjglhcaaXAllx17
import Derived.Test.YtnmhdeibjglhcaaXAllx18
import Derived.Test.YtnmhdeibjglhcaaXAllx19
namespace Go.Proofs.Ytnmhdeibjglhcaa.XAll
open Go.RowKit Go.Proofs.YtnmhdeibjglhcaaW.PrintWords Go.Proofs.YtnmhdeibjglhcaaW.PrintLast Go.Proofs.YtnmhdeibjglhcaaW.PrintMore
attribute [local go_sem] max2_int min2_int max_two min_two max_three min_three max_four min_four   -- for this text's walks alone
set_option linter.unusedVariables false
set_option linter.unusedSimpArgs false

/-! ### railplanlaw33_MaxplusExample: function 10 -/
def railplanlaw33_MaxplusExample.f (k : Nat)  : Option (Bool) := (maxplus_Mean.f k (([(([(-3)] : List Int))] : List (List Int)))).bind fun bt240 => ((maxplus_Mean.f k (([(([(-1125899906842624), (-4)] : List Int)), (([(-2), (-1125899906842624)] : List Int))] : List (List Int)))).bind fun bt252 => ((railplanlaw33_awake.f k).bind fun t255 => (if t255 = true then ((railplanlaw33_example.f).bind fun t256 => ((maxplus_Critical.f k t256).bind fun t259 => ((railplankeep_Same_int.f k t259 (([0, 1] : List Int))).bind fun t265 => (if t265 = true then (if bt240.2.2 = true then (if bt240.1 = (-3) then (if bt240.2.1 = 1 then (if bt252.2.2 = true then (if bt252.1 = (-3) then (some (bt252.2.1 == 1)) else (some false)) else (some false)) else (some false)) else (some false)) else (some false)) else (some false))))) else (some false))))
theorem railplanlaw33_MaxplusExample.mono : ∀ k, LeO (railplanlaw33_MaxplusExample.f k ) (railplanlaw33_MaxplusExample.f (k + 1) ) := by
 intro  k
 unfold railplanlaw33_MaxplusExample.f
 repeat' first
   | (with_reducible exact maxplus_Critical.mono _ _)
   | (with_reducible exact maxplus_Mean.mono _ _)
   | (with_reducible exact railplankeep_Same_int.mono _ _ _)
   | (with_reducible exact railplanlaw33_awake.mono _)
   | (with_reducible exact LeO.refl _)
   | (with_reducible exact LeO.none _)
   | (with_reducible refine LeO.ite ?_ ?_)
   | (with_reducible refine LeO.bind ?_ (fun _ => ?_))
   | exact maxplus_Critical.mono _ _
   | exact maxplus_Mean.mono _ _
   | exact railplankeep_Same_int.mono _ _ _
   | exact railplanlaw33_awake.mono _
   | exact LeO.none _
   | refine LeO.ite ?_ ?_
   | refine LeO.bind ?_ (fun _ => ?_)
set_option maxHeartbeats 8000000 in
set_option maxRecDepth 100000 in
theorem railplanlaw33_MaxplusExample.calls (k : Nat)  (r : Bool) (w : World) (h : railplanlaw33_MaxplusExample.f k  = some r) (hT : Aside0 (r = true)) :
  Calls Try.prog 10 #[] w fun e w' => e = .returned (.bool r) ∧ Below w.heap.size w w' := by
 have HB := Aside0.mk (Below.refl w.heap.size w)
 have H : ((maxplus_Mean.f k (([(([(-3)] : List Int))] : List (List Int)))).bind fun bt240 => ((maxplus_Mean.f k (([(([(-1125899906842624), (-4)] : List Int)), (([(-2), (-1125899906842624)] : List Int))] : List (List Int)))).bind fun bt252 => ((railplanlaw33_awake.f k).bind fun t255 => (if t255 = true then ((railplanlaw33_example.f).bind fun t256 => ((maxplus_Critical.f k t256).bind fun t259 => ((railplankeep_Same_int.f k t259 (([0, 1] : List Int))).bind fun t265 => (if t265 = true then (if bt240.2.2 = true then (if bt240.1 = (-3) then (if bt240.2.1 = 1 then (if bt252.2.2 = true then (if bt252.1 = (-3) then (some (bt252.2.1 == 1)) else (some false)) else (some false)) else (some false)) else (some false)) else (some false)) else (some false))))) else (some false))))) = some r := h
 clear h
 obtain ⟨y234, hy234⟩ : ∃ y_ : List Int, y_ = (([(-3)] : List Int)) := ⟨_, rfl⟩
 replace H : ((maxplus_Mean.f k (([y234] : List (List Int)))).bind fun bt240 => ((maxplus_Mean.f k (([(([(-1125899906842624), (-4)] : List Int)), (([(-2), (-1125899906842624)] : List Int))] : List (List Int)))).bind fun bt252 => ((railplanlaw33_awake.f k).bind fun t255 => (if t255 = true then ((railplanlaw33_example.f).bind fun t256 => ((maxplus_Critical.f k t256).bind fun t259 => ((railplankeep_Same_int.f k t259 (([0, 1] : List Int))).bind fun t265 => (if t265 = true then (if bt240.2.2 = true then (if bt240.1 = (-3) then (if bt240.2.1 = 1 then (if bt252.2.2 = true then (if bt252.1 = (-3) then (some (bt252.2.1 == 1)) else (some false)) else (some false)) else (some false)) else (some false)) else (some false)) else (some false))))) else (some false))))) = some r := by first | (rw [hy234]; with_reducible exact H) | (have H2_ := (Option.bind_some _ _).symm.trans H; rw [hy234]; with_reducible exact H2_) | (have H2_ := (Option.bind_some _ _).symm.trans H; with_reducible exact H2_) | with_reducible exact H | (rw [hy234]; exact H) | exact H
 have Ny234 := Aside0.mk hy234
 clear hy234
 obtain ⟨y237, hy237⟩ : ∃ y_ : List (List Int), y_ = (([y234] : List (List Int))) := ⟨_, rfl⟩
 replace H : ((maxplus_Mean.f k y237).bind fun bt240 => ((maxplus_Mean.f k (([(([(-1125899906842624), (-4)] : List Int)), (([(-2), (-1125899906842624)] : List Int))] : List (List Int)))).bind fun bt252 => ((railplanlaw33_awake.f k).bind fun t255 => (if t255 = true then ((railplanlaw33_example.f).bind fun t256 => ((maxplus_Critical.f k t256).bind fun t259 => ((railplankeep_Same_int.f k t259 (([0, 1] : List Int))).bind fun t265 => (if t265 = true then (if bt240.2.2 = true then (if bt240.1 = (-3) then (if bt240.2.1 = 1 then (if bt252.2.2 = true then (if bt252.1 = (-3) then (some (bt252.2.1 == 1)) else (some false)) else (some false)) else (some false)) else (some false)) else (some false)) else (some false))))) else (some false))))) = some r := by first | (rw [hy237]; with_reducible exact H) | (have H2_ := (Option.bind_some _ _).symm.trans H; rw [hy237]; with_reducible exact H2_) | (have H2_ := (Option.bind_some _ _).symm.trans H; with_reducible exact H2_) | with_reducible exact H | (rw [hy237]; exact H) | exact H
 have Ny237 := Aside0.mk hy237
 clear hy237
 replace H := Option.bind_eq_some_iff.mp H
 obtain ⟨⟨t240, t241, t242⟩, A10, H⟩ := H
 replace H : ((maxplus_Mean.f k (([(([(-1125899906842624), (-4)] : List Int)), (([(-2), (-1125899906842624)] : List Int))] : List (List Int)))).bind fun bt252 => ((railplanlaw33_awake.f k).bind fun t255 => (if t255 = true then ((railplanlaw33_example.f).bind fun t256 => ((maxplus_Critical.f k t256).bind fun t259 => ((railplankeep_Same_int.f k t259 (([0, 1] : List Int))).bind fun t265 => (if t265 = true then (if t242 = true then (if t240 = (-3) then (if t241 = 1 then (if bt252.2.2 = true then (if bt252.1 = (-3) then (some (bt252.2.1 == 1)) else (some false)) else (some false)) else (some false)) else (some false)) else (some false)) else (some false))))) else (some false)))) = some r := H
 have A1 := Aside0.mk A10
 clear A10
 obtain ⟨y243, hy243⟩ : ∃ y_ : List Int, y_ = (([(-1125899906842624), (-4)] : List Int)) := ⟨_, rfl⟩
 replace H : ((maxplus_Mean.f k (([y243, (([(-2), (-1125899906842624)] : List Int))] : List (List Int)))).bind fun bt252 => ((railplanlaw33_awake.f k).bind fun t255 => (if t255 = true then ((railplanlaw33_example.f).bind fun t256 => ((maxplus_Critical.f k t256).bind fun t259 => ((railplankeep_Same_int.f k t259 (([0, 1] : List Int))).bind fun t265 => (if t265 = true then (if t242 = true then (if t240 = (-3) then (if t241 = 1 then (if bt252.2.2 = true then (if bt252.1 = (-3) then (some (bt252.2.1 == 1)) else (some false)) else (some false)) else (some false)) else (some false)) else (some false)) else (some false))))) else (some false)))) = some r := by first | (rw [hy243]; with_reducible exact H) | (have H2_ := (Option.bind_some _ _).symm.trans H; rw [hy243]; with_reducible exact H2_) | (have H2_ := (Option.bind_some _ _).symm.trans H; with_reducible exact H2_) | with_reducible exact H | (rw [hy243]; exact H) | exact H
 have Ny243 := Aside0.mk hy243
 clear hy243
 obtain ⟨y246, hy246⟩ : ∃ y_ : List Int, y_ = (([(-2), (-1125899906842624)] : List Int)) := ⟨_, rfl⟩
 replace H : ((maxplus_Mean.f k (([y243, y246] : List (List Int)))).bind fun bt252 => ((railplanlaw33_awake.f k).bind fun t255 => (if t255 = true then ((railplanlaw33_example.f).bind fun t256 => ((maxplus_Critical.f k t256).bind fun t259 => ((railplankeep_Same_int.f k t259 (([0, 1] : List Int))).bind fun t265 => (if t265 = true then (if t242 = true then (if t240 = (-3) then (if t241 = 1 then (if bt252.2.2 = true then (if bt252.1 = (-3) then (some (bt252.2.1 == 1)) else (some false)) else (some false)) else (some false)) else (some false)) else (some false)) else (some false))))) else (some false)))) = some r := by first | (rw [hy246]; with_reducible exact H) | (have H2_ := (Option.bind_some _ _).symm.trans H; rw [hy246]; with_reducible exact H2_) | (have H2_ := (Option.bind_some _ _).symm.trans H; with_reducible exact H2_) | with_reducible exact H | (rw [hy246]; exact H) | exact H
 have Ny246 := Aside0.mk hy246
 clear hy246
 obtain ⟨y249, hy249⟩ : ∃ y_ : List (List Int), y_ = (([y243, y246] : List (List Int))) := ⟨_, rfl⟩
 replace H : ((maxplus_Mean.f k y249).bind fun bt252 => ((railplanlaw33_awake.f k).bind fun t255 => (if t255 = true then ((railplanlaw33_example.f).bind fun t256 => ((maxplus_Critical.f k t256).bind fun t259 => ((railplankeep_Same_int.f k t259 (([0, 1] : List Int))).bind fun t265 => (if t265 = true then (if t242 = true then (if t240 = (-3) then (if t241 = 1 then (if bt252.2.2 = true then (if bt252.1 = (-3) then (some (bt252.2.1 == 1)) else (some false)) else (some false)) else (some false)) else (some false)) else (some false)) else (some false))))) else (some false)))) = some r := by first | (rw [hy249]; with_reducible exact H) | (have H2_ := (Option.bind_some _ _).symm.trans H; rw [hy249]; with_reducible exact H2_) | (have H2_ := (Option.bind_some _ _).symm.trans H; with_reducible exact H2_) | with_reducible exact H | (rw [hy249]; exact H) | exact H
 have Ny249 := Aside0.mk hy249
 clear hy249
 replace H := Option.bind_eq_some_iff.mp H
 obtain ⟨⟨t252, t253, t254⟩, A20, H⟩ := H
 replace H : ((railplanlaw33_awake.f k).bind fun t255 => (if t255 = true then ((railplanlaw33_example.f).bind fun t256 => ((maxplus_Critical.f k t256).bind fun t259 => ((railplankeep_Same_int.f k t259 (([0, 1] : List Int))).bind fun t265 => (if t265 = true then (if t242 = true then (if t240 = (-3) then (if t241 = 1 then (if t254 = true then (if t252 = (-3) then (some (t253 == 1)) else (some false)) else (some false)) else (some false)) else (some false)) else (some false)) else (some false))))) else (some false))) = some r := H
 have A2 := Aside0.mk A20
 clear A20
 replace H := Option.bind_eq_some_iff.mp H
 obtain ⟨t255, A30, H⟩ := H
 replace H : (if t255 = true then ((railplanlaw33_example.f).bind fun t256 => ((maxplus_Critical.f k t256).bind fun t259 => ((railplankeep_Same_int.f k t259 (([0, 1] : List Int))).bind fun t265 => (if t265 = true then (if t242 = true then (if t240 = (-3) then (if t241 = 1 then (if t254 = true then (if t252 = (-3) then (some (t253 == 1)) else (some false)) else (some false)) else (some false)) else (some false)) else (some false)) else (some false))))) else (some false)) = some r := H
 have A3 := Aside0.mk A30
 clear A30
 by_cases c4 : t255 = true
 ·subst c4
  have H1 : ((railplanlaw33_example.f).bind fun t256 => ((maxplus_Critical.f k t256).bind fun t259 => ((railplankeep_Same_int.f k t259 (([0, 1] : List Int))).bind fun t265 => (if t265 = true then (if t242 = true then (if t240 = (-3) then (if t241 = 1 then (if t254 = true then (if t252 = (-3) then (some (t253 == 1)) else (some false)) else (some false)) else (some false)) else (some false)) else (some false)) else (some false))))) = some r := by rw [if_pos rfl] at H; exact H
  clear H
  have H := H1
  clear H1
  replace H := Option.bind_eq_some_iff.mp H
  obtain ⟨t256, A50, H⟩ := H
  replace H : ((maxplus_Critical.f k t256).bind fun t259 => ((railplankeep_Same_int.f k t259 (([0, 1] : List Int))).bind fun t265 => (if t265 = true then (if t242 = true then (if t240 = (-3) then (if t241 = 1 then (if t254 = true then (if t252 = (-3) then (some (t253 == 1)) else (some false)) else (some false)) else (some false)) else (some false)) else (some false)) else (some false)))) = some r := H
  have A5 := Aside0.mk A50
  clear A50
  replace H := Option.bind_eq_some_iff.mp H
  obtain ⟨t259, A60, H⟩ := H
  replace H : ((railplankeep_Same_int.f k t259 (([0, 1] : List Int))).bind fun t265 => (if t265 = true then (if t242 = true then (if t240 = (-3) then (if t241 = 1 then (if t254 = true then (if t252 = (-3) then (some (t253 == 1)) else (some false)) else (some false)) else (some false)) else (some false)) else (some false)) else (some false))) = some r := H
  have A6 := Aside0.mk A60
  clear A60
  obtain ⟨y262, hy262⟩ : ∃ y_ : List Int, y_ = (([0, 1] : List Int)) := ⟨_, rfl⟩
  replace H : ((railplankeep_Same_int.f k t259 y262).bind fun t265 => (if t265 = true then (if t242 = true then (if t240 = (-3) then (if t241 = 1 then (if t254 = true then (if t252 = (-3) then (some (t253 == 1)) else (some false)) else (some false)) else (some false)) else (some false)) else (some false)) else (some false))) = some r := by first | (rw [hy262]; with_reducible exact H) | (have H2_ := (Option.bind_some _ _).symm.trans H; rw [hy262]; with_reducible exact H2_) | (have H2_ := (Option.bind_some _ _).symm.trans H; with_reducible exact H2_) | with_reducible exact H | (rw [hy262]; exact H) | exact H
  have Ny262 := Aside0.mk hy262
  clear hy262
  replace H := Option.bind_eq_some_iff.mp H
  obtain ⟨t265, A70, H⟩ := H
  replace H : (if t265 = true then (if t242 = true then (if t240 = (-3) then (if t241 = 1 then (if t254 = true then (if t252 = (-3) then (some (t253 == 1)) else (some false)) else (some false)) else (some false)) else (some false)) else (some false)) else (some false)) = some r := H
  have A7 := Aside0.mk A70
  clear A70
  by_cases c8 : t265 = true
  ·subst c8
   have H1 : (if t242 = true then (if t240 = (-3) then (if t241 = 1 then (if t254 = true then (if t252 = (-3) then (some (t253 == 1)) else (some false)) else (some false)) else (some false)) else (some false)) else (some false)) = some r := by rw [if_pos rfl] at H; exact H
   clear H
   have H := H1
   clear H1
   by_cases c9 : t242 = true
   ·subst c9
    have H1 : (if t240 = (-3) then (if t241 = 1 then (if t254 = true then (if t252 = (-3) then (some (t253 == 1)) else (some false)) else (some false)) else (some false)) else (some false)) = some r := by rw [if_pos rfl] at H; exact H
    clear H
    have H := H1
    clear H1
    by_cases c10 : t240 = (-3)
    ·rw [if_pos c10] at H
     have c10b0 : (t240 == (-3)) = true := beq_iff_eq.mpr c10
     have c10b1 : (t240 != (-3)) = false := bne_eq_false_iff_eq.mpr c10
     clear c10
     by_cases c11 : t241 = 1
     ·rw [if_pos c11] at H
      have c11b0 : (t241 == 1) = true := beq_iff_eq.mpr c11
      have c11b1 : (t241 != 1) = false := bne_eq_false_iff_eq.mpr c11
      clear c11
      by_cases c12 : t254 = true
      ·subst c12
       have H1 : (if t252 = (-3) then (some (t253 == 1)) else (some false)) = some r := by rw [if_pos rfl] at H; exact H
       clear H
       have H := H1
       clear H1
       by_cases c13 : t252 = (-3)
       ·rw [if_pos c13] at H
        have c13b0 : (t252 == (-3)) = true := beq_iff_eq.mpr c13
        have c13b1 : (t252 != (-3)) = false := bne_eq_false_iff_eq.mpr c13
        clear c13
        obtain rfl := Option.some.inj H
        go_enter Try.func10, Try.ntmps10
        go_wp2_with (first | ((with_reducible refine gate_dst (N := 8) rfl ?_); (try (refine gate_guard (by rfl) ?_; dsimp only)); refine Kd.R_lit (Kd.int .i64) _ 3 ?hg (N := 8) ?hd (xs := ([(-3)] : List Int)) (inner := [.int .i64 (-3)]) (ok := fun _ => True) (okp := fun _ => True) ?hr ?hp (fun _ hk => hk) trivial (Below.refl _ _) (Nat.le_refl _) (by simp) ?_; (case hd => rfl); (case hg => rfl); (case hr => first | (go_simp; done) | (go_simp; rfl)); (case hp => exact (Reps.one (show Kd.M (Kd.int .i64) _ _ _ (-3) [.int .i64 (-3)] from rfl) (Reps.none _ _))); intro v235 w14 ho15 hb hg_ hnew_; clear hg_ hnew_; (first | rw [← Ny234.out] at ho15 | (simp only [Int.reduceToNat] at ho15; rw [← Ny234.out] at ho15)); have n0_ := Aside0.mk (Kd.R_lower ho15 (below_size (by repeat (first | (with_reducible first | exact HB.out | apply below_alloc | apply pw_below_drewN | apply below_drew1) | exact HB.out)))); have n1_ := Aside0.mk (below_step (by repeat (first | (with_reducible first | exact HB.out | apply below_alloc | apply pw_below_drewN | apply below_drew1) | exact HB.out)) hb); clear HB; have HO236 := n0_; have HB := n1_; clear n0_ n1_; clear hb ho15; obtain ⟨Ao16, co16, eo16⟩ := Kd.R_slice HO236.out; subst eo16) | ((with_reducible refine gate_dst (N := 9) rfl ?_); (try (refine gate_guard (by rfl) ?_; dsimp only)); refine Kd.N_lit (Kd.slice 3 (Kd.int .i64)) _ 22 ?hg (N' := 9) ?hd (xs := ([y234] : List (List Int))) (inner := [.slice Ao16 y234.length co16]) (ok := (fun _ => True)) (okp := (fun _ => True)) ?hr ?hp (fun _ hk => hk) ((show ∀ k_, w14.heap.size ≤ k_ → (fun _ => True) k_ from fun k_ hk => trivial) _ (Nat.le_refl _)) (Below.refl _ _) (Nat.le_refl _) (by simp) ?_; (case hd => rfl); (case hg => rfl); (case hr => first | (go_simp; done) | (go_simp; rfl)); (case hp => exact (Reps.one (show Kd.FK (Kd.slice 3 (Kd.int .i64)) _ _ y234 [.slice Ao16 y234.length co16] from (Kd.FK_slice_mk (Kd.R_reads' (Kd.R_mono (ok' := (fun _ => True)) (HO236.out) (fun k_ hk => trivial))).2.1 (Kd.R_F (Kd.R_mono (ok' := (fun _ => True)) (HO236.out) (fun k_ hk => trivial))))) (Reps.none _ _))); intro v238 w17 ho18 hb hg_ hnew_; clear hg_ hnew_; (first | rw [← Ny237.out] at ho18 | (simp only [Int.reduceToNat] at ho18; rw [← Ny237.out] at ho18)); have n0_ := Aside0.mk (Kd.N_lower ho18 (below_size (by repeat (first | (with_reducible first | exact HB.out | apply below_alloc | apply pw_below_drewN | apply below_drew1) | exact HB.out)))); have n1_ := Aside0.mk (below_step (by repeat (first | (with_reducible first | exact HB.out | apply below_alloc | apply pw_below_drewN | apply below_drew1) | exact HB.out)) hb); clear HB; clear HO236; have HO239 := n0_; have HB := n1_; clear n0_ n1_; clear hb ho18; obtain ⟨Ao19, co19, eo19⟩ := Kd.N_slice HO239.out; subst eo19) | ((with_reducible refine gate_callee (f := 20) rfl ?_); refine goesL_ (some 10) rfl rfl Try.func20 (by kernel_rfl) rfl #[.slice Ao19 y237.length co19] rfl (by (try simp only [List.map_toArray, List.map_cons, List.map_nil]); first | done | rfl | (simp only [List.length_drop, List.length_take]; rfl)) ?_; (with_reducible refine (maxplus_Mean.calls k _ _ y237 t240 t241 true _ ?side1 ?side2 A1.out).mono ?_); (case side1 => repeat (first | exact (Kd.N_reads' HO239.out).2.2 | (with_reducible refine Kd.C_alloc ?_ _) | (with_reducible refine Kd.C_drewN ?_ _) | (with_reducible refine Kd.C_drew ?_))); (case side2 => exact (Kd.N_reads' HO239.out).2.1); rintro e w20 ⟨rfl, hb⟩; refine ⟨_, rfl, ?_⟩; have n0_ := Aside0.mk (Kd.N_below (by (with_reducible repeat (first | apply Kd.N_alloc | apply Kd.N_drewN | apply Kd.N_drew)); exact HO239.out) hb); have n1_ := Aside0.mk (below_step (by repeat (first | (with_reducible first | exact HB.out | apply below_alloc | apply pw_below_drewN | apply below_drew1) | exact HB.out)) hb); clear HO239; clear HB; have HO239 := n0_; have HB := n1_; clear n0_ n1_; (try clear hb); (try clear hb2); (try clear hk); (try clear hi)) | ((with_reducible refine gate_dst (N := 15) rfl ?_); (try (refine gate_guard (by rfl) ?_; dsimp only)); refine Kd.R_lit (Kd.int .i64) _ 3 ?hg (N := 15) ?hd (xs := ([(-1125899906842624), (-4)] : List Int)) (inner := [.int .i64 (-1125899906842624), .int .i64 (-4)]) (ok := fun _ => True) (okp := fun _ => True) ?hr ?hp (fun _ hk => hk) trivial (Below.refl _ _) (Nat.le_refl _) (by simp) ?_; (case hd => rfl); (case hg => rfl); (case hr => first | (go_simp; done) | (go_simp; rfl)); (case hp => exact (Reps.one (show Kd.M (Kd.int .i64) _ _ _ (-1125899906842624) [.int .i64 (-1125899906842624)] from rfl) (Reps.one (show Kd.M (Kd.int .i64) _ _ _ (-4) [.int .i64 (-4)] from rfl) (Reps.none _ _)))); intro v244 w21 ho22 hb hg_ hnew_; clear hg_ hnew_; (first | rw [← Ny243.out] at ho22 | (simp only [Int.reduceToNat] at ho22; rw [← Ny243.out] at ho22)); have n0_ := Aside0.mk (Kd.N_elder' (by (with_reducible repeat (first | apply Kd.N_alloc | apply Kd.N_drewN | apply Kd.N_drew)); exact HO239.out) (by first | exact Kd.N_base ho22 | exact Kd.S_base ho22 | exact Kd.R_base ho22 | exact Kd.Q_base ho22) hb); have n1_ := Aside0.mk (Kd.R_lower ho22 (below_size (by repeat (first | (with_reducible first | exact HB.out | apply below_alloc | apply pw_below_drewN | apply below_drew1) | exact HB.out)))); have n2_ := Aside0.mk (below_step (by repeat (first | (with_reducible first | exact HB.out | apply below_alloc | apply pw_below_drewN | apply below_drew1) | exact HB.out)) hb); clear HO239; clear HB; have HO239 := n0_; have HO245 := n1_; have HB := n2_; clear n0_ n1_ n2_; clear hb ho22) | ((with_reducible refine gate_dst (N := 16) rfl ?_); (try (refine gate_guard (by rfl) ?_; dsimp only)); refine Kd.R_lit (Kd.int .i64) _ 3 ?hg (N := 16) ?hd (xs := ([(-2), (-1125899906842624)] : List Int)) (inner := [.int .i64 (-2), .int .i64 (-1125899906842624)]) (ok := fun _ => True) (okp := fun _ => True) ?hr ?hp (fun _ hk => hk) trivial (Below.refl _ _) (Nat.le_refl _) (by simp) ?_; (case hd => rfl); (case hg => rfl); (case hr => first | (go_simp; done) | (go_simp; rfl)); (case hp => exact (Reps.one (show Kd.M (Kd.int .i64) _ _ _ (-2) [.int .i64 (-2)] from rfl) (Reps.one (show Kd.M (Kd.int .i64) _ _ _ (-1125899906842624) [.int .i64 (-1125899906842624)] from rfl) (Reps.none _ _)))); intro v247 w23 ho24 hb hg_ hnew_; clear hg_ hnew_; (first | rw [← Ny246.out] at ho24 | (simp only [Int.reduceToNat] at ho24; rw [← Ny246.out] at ho24)); have n0_ := Aside0.mk (Kd.N_elder' (by (with_reducible repeat (first | apply Kd.N_alloc | apply Kd.N_drewN | apply Kd.N_drew)); exact HO239.out) (by first | exact Kd.N_base ho24 | exact Kd.S_base ho24 | exact Kd.R_base ho24 | exact Kd.Q_base ho24) hb); have n1_ := Aside0.mk (Kd.R_elder' (by (with_reducible repeat (first | apply Kd.R_alloc | apply Kd.R_drewN | apply Kd.R_drew)); exact HO245.out) (by first | exact Kd.N_base ho24 | exact Kd.S_base ho24 | exact Kd.R_base ho24 | exact Kd.Q_base ho24) hb); have n2_ := Aside0.mk (Kd.R_lower (Kd.R_new' ho24 (Kd.R_lt (by (with_reducible repeat (first | apply Kd.R_alloc | apply Kd.R_drewN | apply Kd.R_drew)); exact HO245.out))) (below_size (by repeat (first | (with_reducible first | exact HB.out | apply below_alloc | apply pw_below_drewN | apply below_drew1) | exact HB.out)))); have n3_ := Aside0.mk (below_step (by repeat (first | (with_reducible first | exact HB.out | apply below_alloc | apply pw_below_drewN | apply below_drew1) | exact HB.out)) hb); clear HO239; clear HO245; clear HB; have HO239 := n0_; have HO245 := n1_; have HO248 := n2_; have HB := n3_; clear n0_ n1_ n2_ n3_; clear hb ho24; obtain ⟨Ao25, co25, eo25⟩ := Kd.R_slice HO245.out; subst eo25; obtain ⟨Ao26, co26, eo26⟩ := Kd.R_slice HO248.out; subst eo26) | ((with_reducible refine gate_dst (N := 17) rfl ?_); (try (refine gate_guard (by rfl) ?_; dsimp only)); refine Kd.N_lit (Kd.slice 3 (Kd.int .i64)) _ 22 ?hg (N' := 17) ?hd (xs := ([y243, y246] : List (List Int))) (inner := [.slice Ao25 y243.length co25, .slice Ao26 y246.length co26]) (ok := (fun k_ => some k_ ≠ (.slice Ao19 y237.length co19 : Value).ownBlock)) (okp := (fun k_ => some k_ ≠ (.slice Ao19 y237.length co19 : Value).ownBlock)) ?hr ?hp (fun _ hk => hk) ((show ∀ k_, w23.heap.size ≤ k_ → (fun k_ => some k_ ≠ (.slice Ao19 y237.length co19 : Value).ownBlock) k_ from fun k_ hk => Kd.fresh' (Kd.N_lt (by (with_reducible repeat (first | apply Kd.N_alloc | apply Kd.N_drewN | apply Kd.N_drew)); exact HO239.out)) k_ hk) _ (Nat.le_refl _)) (Below.refl _ _) (Nat.le_refl _) (by simp) ?_; (case hd => rfl); (case hg => rfl); (case hr => first | (go_simp; done) | (go_simp; rfl)); (case hp => exact (Reps.one (show Kd.FK (Kd.slice 3 (Kd.int .i64)) _ _ y243 [.slice Ao25 y243.length co25] from (Kd.FK_slice_mk (Kd.R_reads' (Kd.R_mono (ok' := (fun k_ => some k_ ≠ (.slice Ao19 y237.length co19 : Value).ownBlock)) (Kd.R_apart' (HO245.out) (Kd.N_typed HO239.out) (by decide)) (fun k_ hk => hk.2))).2.1 (Kd.R_F (Kd.R_mono (ok' := (fun k_ => some k_ ≠ (.slice Ao19 y237.length co19 : Value).ownBlock)) (Kd.R_apart' (HO245.out) (Kd.N_typed HO239.out) (by decide)) (fun k_ hk => hk.2))))) (Reps.one (show Kd.FK (Kd.slice 3 (Kd.int .i64)) _ _ y246 [.slice Ao26 y246.length co26] from (Kd.FK_slice_mk (Kd.R_reads' (Kd.R_mono (ok' := (fun k_ => some k_ ≠ (.slice Ao19 y237.length co19 : Value).ownBlock)) (Kd.R_apart' (HO248.out) (Kd.N_typed HO239.out) (by decide)) (fun k_ hk => hk.2))).2.1 (Kd.R_F (Kd.R_mono (ok' := (fun k_ => some k_ ≠ (.slice Ao19 y237.length co19 : Value).ownBlock)) (Kd.R_apart' (HO248.out) (Kd.N_typed HO239.out) (by decide)) (fun k_ hk => hk.2))))) (Reps.none _ _)))); intro v250 w27 ho28 hb hg_ hnew_; clear hg_ hnew_; (first | rw [← Ny249.out] at ho28 | (simp only [Int.reduceToNat] at ho28; rw [← Ny249.out] at ho28)); have n0_ := Aside0.mk (Kd.N_elder' (by (with_reducible repeat (first | apply Kd.N_alloc | apply Kd.N_drewN | apply Kd.N_drew)); exact HO239.out) (by first | exact Kd.N_base ho28 | exact Kd.S_base ho28 | exact Kd.R_base ho28 | exact Kd.Q_base ho28) hb); have n1_ := Aside0.mk (Kd.N_lower ho28 (below_size (by repeat (first | (with_reducible first | exact HB.out | apply below_alloc | apply pw_below_drewN | apply below_drew1) | exact HB.out)))); have n2_ := Aside0.mk (below_step (by repeat (first | (with_reducible first | exact HB.out | apply below_alloc | apply pw_below_drewN | apply below_drew1) | exact HB.out)) hb); clear HO239; clear HB; clear HO245; clear HO248; have HO239 := n0_; have HO251 := n1_; have HB := n2_; clear n0_ n1_ n2_; clear hb ho28; obtain ⟨Ao29, co29, eo29⟩ := Kd.N_slice HO251.out; subst eo29) | ((with_reducible refine gate_callee (f := 20) rfl ?_); refine goesL_ (some 18) rfl rfl Try.func20 (by kernel_rfl) rfl #[.slice Ao29 y249.length co29] rfl (by (try simp only [List.map_toArray, List.map_cons, List.map_nil]); first | done | rfl | (simp only [List.length_drop, List.length_take]; rfl)) ?_; (with_reducible refine (maxplus_Mean.calls k _ _ y249 t252 t253 true _ ?side1 ?side2 A2.out).mono ?_); (case side1 => repeat (first | exact (Kd.N_reads' HO251.out).2.2 | (with_reducible refine Kd.C_alloc ?_ _) | (with_reducible refine Kd.C_drewN ?_ _) | (with_reducible refine Kd.C_drew ?_))); (case side2 => exact (Kd.N_reads' HO251.out).2.1); rintro e w30 ⟨rfl, hb⟩; refine ⟨_, rfl, ?_⟩; have n0_ := Aside0.mk (Kd.N_below (by (with_reducible repeat (first | apply Kd.N_alloc | apply Kd.N_drewN | apply Kd.N_drew)); exact HO239.out) hb); have n1_ := Aside0.mk (Kd.N_below (by (with_reducible repeat (first | apply Kd.N_alloc | apply Kd.N_drewN | apply Kd.N_drew)); exact HO251.out) hb); have n2_ := Aside0.mk (below_step (by repeat (first | (with_reducible first | exact HB.out | apply below_alloc | apply pw_below_drewN | apply below_drew1) | exact HB.out)) hb); clear HO239; clear HO251; clear HB; have HO239 := n0_; have HO251 := n1_; have HB := n2_; clear n0_ n1_ n2_; (try clear hb); (try clear hb2); (try clear hk); (try clear hi)) | ((with_reducible refine gate_callee (f := 17) rfl ?_); refine goesL_ (some 22) rfl rfl Try.func17 (by kernel_rfl) rfl #[] rfl (by (try simp only [List.map_toArray, List.map_cons, List.map_nil]); first | done | rfl | (simp only [List.length_drop, List.length_take]; rfl)) ?_; (with_reducible refine (railplanlaw33_awake.calls k  true _ A3.out ⟨by first | rfl | assumption | exact hT.out⟩).mono ?_); rintro e w31 ⟨rfl, hb⟩; refine ⟨_, rfl, ?_⟩; have n0_ := Aside0.mk (Kd.N_below (by (with_reducible repeat (first | apply Kd.N_alloc | apply Kd.N_drewN | apply Kd.N_drew)); exact HO239.out) hb); have n1_ := Aside0.mk (Kd.N_below (by (with_reducible repeat (first | apply Kd.N_alloc | apply Kd.N_drewN | apply Kd.N_drew)); exact HO251.out) hb); have n2_ := Aside0.mk (below_step (by repeat (first | (with_reducible first | exact HB.out | apply below_alloc | apply pw_below_drewN | apply below_drew1) | exact HB.out)) hb); clear HO239; clear HO251; clear HB; have HO239 := n0_; have HO251 := n1_; have HB := n2_; clear n0_ n1_ n2_; (try clear hb); (try clear hb2); (try clear hk); (try clear hi)) | (go_at_call 37; (with_reducible refine (railplanlaw33_example.calls  t256 _ A5.out).mono ?_); rintro e w32 ⟨v257, rfl, ho0, hb⟩; have n0_ := Aside0.mk (Kd.N_elder' (by (with_reducible repeat (first | apply Kd.N_alloc | apply Kd.N_drewN | apply Kd.N_drew)); exact HO239.out) (by first | exact Kd.N_base ho0 | exact Kd.S_base ho0 | exact Kd.R_base ho0 | exact Kd.Q_base ho0) hb); have n1_ := Aside0.mk (Kd.N_elder' (by (with_reducible repeat (first | apply Kd.N_alloc | apply Kd.N_drewN | apply Kd.N_drew)); exact HO251.out) (by first | exact Kd.N_base ho0 | exact Kd.S_base ho0 | exact Kd.R_base ho0 | exact Kd.Q_base ho0) hb); have n2_ := Aside0.mk (Kd.N_lower (Kd.N_mono (ok' := fun k_ => some k_ ≠ (.slice Ao19 y237.length co19 : Value).ownBlock ∧ some k_ ≠ (.slice Ao29 y249.length co29 : Value).ownBlock) ho0 (fun k_ hk_ => ⟨(Kd.fresh' (Kd.N_lt (by (with_reducible repeat (first | apply Kd.N_alloc | apply Kd.N_drewN | apply Kd.N_drew)); exact HO239.out)) k_ hk_), (Kd.fresh' (Kd.N_lt (by (with_reducible repeat (first | apply Kd.N_alloc | apply Kd.N_drewN | apply Kd.N_drew)); exact HO251.out)) k_ hk_)⟩)) (below_size (by repeat (first | (with_reducible first | exact HB.out | apply below_alloc | apply pw_below_drewN | apply below_drew1) | exact HB.out)))); have n3_ := Aside0.mk (below_step (by repeat (first | (with_reducible first | exact HB.out | apply below_alloc | apply pw_below_drewN | apply below_drew1) | exact HB.out)) hb); clear HO239; clear HO251; clear HB; have HO239 := n0_; have HO251 := n1_; have HO258 := n2_; have HB := n3_; clear n0_ n1_ n2_ n3_; (try clear hb); (try clear hb2); (try clear hk); (try clear hi); (try clear ho0); obtain ⟨Ao33, co33, eo33⟩ := Kd.N_slice HO258.out; subst eo33) | (go_at_call 36; (with_reducible refine (maxplus_Critical.calls k _ _ t256 t259 _ ?side1 ?side2 A6.out).mono ?_); (case side1 => repeat (first | exact (Kd.N_reads' HO258.out).2.2 | (with_reducible refine Kd.C_alloc ?_ _) | (with_reducible refine Kd.C_drewN ?_ _) | (with_reducible refine Kd.C_drew ?_))); (case side2 => exact (Kd.N_reads' HO258.out).2.1); rintro e w34 ⟨v260, rfl, ho0, hb⟩; have n0_ := Aside0.mk (Kd.N_elder' (by (with_reducible repeat (first | apply Kd.N_alloc | apply Kd.N_drewN | apply Kd.N_drew)); exact HO239.out) (by first | exact Kd.N_base ho0 | exact Kd.S_base ho0 | exact Kd.R_base ho0 | exact Kd.Q_base ho0) hb); have n1_ := Aside0.mk (Kd.N_elder' (by (with_reducible repeat (first | apply Kd.N_alloc | apply Kd.N_drewN | apply Kd.N_drew)); exact HO251.out) (by first | exact Kd.N_base ho0 | exact Kd.S_base ho0 | exact Kd.R_base ho0 | exact Kd.Q_base ho0) hb); have n2_ := Aside0.mk (Kd.N_elder' (by (with_reducible repeat (first | apply Kd.N_alloc | apply Kd.N_drewN | apply Kd.N_drew)); exact HO258.out) (by first | exact Kd.N_base ho0 | exact Kd.S_base ho0 | exact Kd.R_base ho0 | exact Kd.Q_base ho0) hb); have n3_ := Aside0.mk (Kd.R_lower ho0 (below_size (by repeat (first | (with_reducible first | exact HB.out | apply below_alloc | apply pw_below_drewN | apply below_drew1) | exact HB.out)))); have n4_ := Aside0.mk (below_step (by repeat (first | (with_reducible first | exact HB.out | apply below_alloc | apply pw_below_drewN | apply below_drew1) | exact HB.out)) hb); clear HO239; clear HO251; clear HO258; clear HB; have HO239 := n0_; have HO251 := n1_; have HO258 := n2_; have HO261 := n3_; have HB := n4_; clear n0_ n1_ n2_ n3_ n4_; (try clear hb); (try clear hb2); (try clear hk); (try clear hi); (try clear ho0)) | ((with_reducible refine gate_dst (N := 26) rfl ?_); (try (refine gate_guard (by rfl) ?_; dsimp only)); refine Kd.R_lit (Kd.int .i64) _ 3 ?hg (N := 26) ?hd (xs := ([0, 1] : List Int)) (inner := [.int .i64 0, .int .i64 1]) (ok := fun _ => True) (okp := fun _ => True) ?hr ?hp (fun _ hk => hk) trivial (Below.refl _ _) (Nat.le_refl _) (by simp) ?_; (case hd => rfl); (case hg => rfl); (case hr => first | (go_simp; done) | (go_simp; rfl)); (case hp => exact (Reps.one (show Kd.M (Kd.int .i64) _ _ _ 0 [.int .i64 0] from rfl) (Reps.one (show Kd.M (Kd.int .i64) _ _ _ 1 [.int .i64 1] from rfl) (Reps.none _ _)))); intro v263 w35 ho36 hb hg_ hnew_; clear hg_ hnew_; (first | rw [← Ny262.out] at ho36 | (simp only [Int.reduceToNat] at ho36; rw [← Ny262.out] at ho36)); have n0_ := Aside0.mk (Kd.N_elder' (by (with_reducible repeat (first | apply Kd.N_alloc | apply Kd.N_drewN | apply Kd.N_drew)); exact HO239.out) (by first | exact Kd.N_base ho36 | exact Kd.S_base ho36 | exact Kd.R_base ho36 | exact Kd.Q_base ho36) hb); have n1_ := Aside0.mk (Kd.N_elder' (by (with_reducible repeat (first | apply Kd.N_alloc | apply Kd.N_drewN | apply Kd.N_drew)); exact HO251.out) (by first | exact Kd.N_base ho36 | exact Kd.S_base ho36 | exact Kd.R_base ho36 | exact Kd.Q_base ho36) hb); have n2_ := Aside0.mk (Kd.N_elder' (by (with_reducible repeat (first | apply Kd.N_alloc | apply Kd.N_drewN | apply Kd.N_drew)); exact HO258.out) (by first | exact Kd.N_base ho36 | exact Kd.S_base ho36 | exact Kd.R_base ho36 | exact Kd.Q_base ho36) hb); have n3_ := Aside0.mk (Kd.R_elder' (by (with_reducible repeat (first | apply Kd.R_alloc | apply Kd.R_drewN | apply Kd.R_drew)); exact HO261.out) (by first | exact Kd.N_base ho36 | exact Kd.S_base ho36 | exact Kd.R_base ho36 | exact Kd.Q_base ho36) hb); have n4_ := Aside0.mk (Kd.R_lower (Kd.R_new' ho36 (Kd.R_lt (by (with_reducible repeat (first | apply Kd.R_alloc | apply Kd.R_drewN | apply Kd.R_drew)); exact HO261.out))) (below_size (by repeat (first | (with_reducible first | exact HB.out | apply below_alloc | apply pw_below_drewN | apply below_drew1) | exact HB.out)))); have n5_ := Aside0.mk (below_step (by repeat (first | (with_reducible first | exact HB.out | apply below_alloc | apply pw_below_drewN | apply below_drew1) | exact HB.out)) hb); clear HO239; clear HO251; clear HO258; clear HO261; clear HB; have HO239 := n0_; have HO251 := n1_; have HO258 := n2_; have HO261 := n3_; have HO264 := n4_; have HB := n5_; clear n0_ n1_ n2_ n3_ n4_ n5_; clear hb ho36; obtain ⟨Ao37, co37, eo37⟩ := Kd.R_slice HO261.out; subst eo37; obtain ⟨Ao38, co38, eo38⟩ := Kd.R_slice HO264.out; subst eo38) | (go_at_call 34; (with_reducible refine (railplankeep_Same_int.calls k _ _ t259 _ _ y262 true _ ?side1 ?side2 ?side3 ?side4 A7.out).mono ?_); (case side1 => repeat (first | exact (Kd.R_reads' HO261.out).2.2 | (with_reducible refine Kd.C_alloc ?_ _) | (with_reducible refine Kd.C_drewN ?_ _) | (with_reducible refine Kd.C_drew ?_))); (case side2 => exact (Kd.R_reads' HO261.out).2.1); (case side3 => repeat (first | exact (Kd.R_reads' HO264.out).2.2 | (with_reducible refine Kd.C_alloc ?_ _) | (with_reducible refine Kd.C_drewN ?_ _) | (with_reducible refine Kd.C_drew ?_))); (case side4 => exact (Kd.R_reads' HO264.out).2.1); rintro e w' ⟨rfl, ⟨nd, rfl⟩⟩))
        go_ret
        exact ⟨by first | rfl | (simp [errW_none, errW_some] <;> rfl) | (simp [*, errW_none, errW_some] <;> rfl), by repeat (first | (with_reducible first | exact HB.out | apply below_alloc | apply pw_below_drewN | apply below_drew1) | exact HB.out)⟩
       ·rw [if_neg c13] at H
        have c13b0 : (t252 == (-3)) = false := beq_eq_false_iff_ne.mpr c13
        have c13b1 : (t252 != (-3)) = true := bne_iff_ne.mpr c13
        exact absurd (Option.some.inj H) (by rw [hT.out]; decide)
      ·replace c12 := Bool.eq_false_iff.mpr c12
       subst c12
       have H1 : (some false) = some r := by rw [if_neg (show ¬ (false = true) by decide)] at H; exact H
       clear H
       have H := H1
       clear H1
       exact absurd (Option.some.inj H) (by rw [hT.out]; decide)
     ·rw [if_neg c11] at H
      have c11b0 : (t241 == 1) = false := beq_eq_false_iff_ne.mpr c11
      have c11b1 : (t241 != 1) = true := bne_iff_ne.mpr c11
      exact absurd (Option.some.inj H) (by rw [hT.out]; decide)
    ·rw [if_neg c10] at H
     have c10b0 : (t240 == (-3)) = false := beq_eq_false_iff_ne.mpr c10
     have c10b1 : (t240 != (-3)) = true := bne_iff_ne.mpr c10
     exact absurd (Option.some.inj H) (by rw [hT.out]; decide)
   ·replace c9 := Bool.eq_false_iff.mpr c9
    subst c9
    have H1 : (some false) = some r := by rw [if_neg (show ¬ (false = true) by decide)] at H; exact H
    clear H
    have H := H1
    clear H1
    exact absurd (Option.some.inj H) (by rw [hT.out]; decide)
  ·replace c8 := Bool.eq_false_iff.mpr c8
   subst c8
   have H1 : (some false) = some r := by rw [if_neg (show ¬ (false = true) by decide)] at H; exact H
   clear H
   have H := H1
   clear H1
   exact absurd (Option.some.inj H) (by rw [hT.out]; decide)
 ·replace c4 := Bool.eq_false_iff.mpr c4
  subst c4
  have H1 : (some false) = some r := by rw [if_neg (show ¬ (false = true) by decide)] at H; exact H
  clear H
  have H := H1
  clear H1
  exact absurd (Option.some.inj H) (by rw [hT.out]; decide)

/-- THE ONE PURE STATEMENT of railplanlaw33_MaxplusExample: yours. -/
def railplanlaw33_MaxplusExample.Pure : Prop := ∃ k, railplanlaw33_MaxplusExample.f k  = some true
theorem railplanlaw33_MaxplusExample.walk (P : railplanlaw33_MaxplusExample.Pure)  (w : World)  :
  Calls Try.prog 10 #[] w fun e w' => e = .returned (.bool true) ∧ Below w.heap.size w w' := by
 obtain ⟨k, h⟩ := P  
 refine (railplanlaw33_MaxplusExample.calls k  true w h ⟨rfl⟩).mono ?_
 rintro e w' ⟨rfl, hd⟩
 exact ⟨rfl, hd⟩

end Go.Proofs.Ytnmhdeibjglhcaa.XAll
