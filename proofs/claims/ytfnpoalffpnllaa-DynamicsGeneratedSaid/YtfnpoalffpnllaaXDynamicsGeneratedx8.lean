-- This session's own text, written by wip/tools/xprint.py after the form of the kit's print.
import Derived.Test.YtfnpoalffpnllaaXDynamicsGeneratedx0
import Derived.Test.YtfnpoalffpnllaaXDynamicsGeneratedx1
import Derived.Test.YtfnpoalffpnllaaXDynamicsGeneratedx3
import Derived.Test.YtfnpoalffpnllaaXDynamicsGeneratedx4
import Derived.Test.YtfnpoalffpnllaaXDynamicsGeneratedx6
import Derived.Test.YtfnpoalffpnllaaXDynamicsGeneratedx7
namespace Go.Proofs.Ytfnpoalffpnllaa.XDynamicsGenerated
open Go.RowKit Go.Proofs.YtfnpoalffpnllaaW.PrintWords Go.Proofs.YtfnpoalffpnllaaW.PrintLast Go.Proofs.YtfnpoalffpnllaaW.PrintMore
attribute [local go_sem] max2_int min2_int max_two min_two max_three min_three max_four min_four   -- for this text's walks alone
set_option linter.unusedVariables false
set_option linter.unusedSimpArgs false

/-! ### railplanlaw6_agrees: function 22 -/
def railplanlaw6_agrees.f (k : Nat) (l0 : List (S34)) (a1 : Int) (a2_0 : ByteArray) (a2_1 : Int) (a2_2 : Int) (a2_3 : Int) (a2_4 : Int) : Option (Bool) := (dynamics_Speeds.f k l0 a1 a2_0 a2_1 a2_2 a2_3 a2_4).bind fun bt257 => ((railplanref6_Speeds.f k l0 a1 a2_0 a2_1 a2_2 a2_3 a2_4).bind fun bt261 => ((dynamics_Times.f k l0 a1 a2_0 a2_1 a2_2 a2_3 a2_4).bind fun bt265 => ((railplanref6_Times.f k l0 a1 a2_0 a2_1 a2_2 a2_3 a2_4).bind fun bt269 => ((dynamics_Run.f k l0 a1 a2_0 a2_1 a2_2 a2_3 a2_4).bind fun bt273 => ((railplanref6_Run.f k l0 a1 a2_0 a2_1 a2_2 a2_3 a2_4).bind fun bt275 => ((dynamics_Check.f a2_0 a2_1 a2_2 a2_3 a2_4).bind fun t277 => ((railplanref6_CheckStock.f a2_0 a2_1 a2_2 a2_3 a2_4).bind fun t278 => (if (t277 == t278) = true then ((railplankeep_Same_int.f k bt257.1 bt261.1).bind fun t279 => (if t279 = true then (if bt257.2 = bt261.2 then ((railplankeep_Same_int.f k bt265.1 bt269.1).bind fun t280 => (if t280 = true then (if bt265.2 = bt269.2 then (if bt273.1 = bt275.1 then (some (bt273.2 == bt275.2)) else (some false)) else (some false)) else (some false))) else (some false)) else (some false))) else (some false)))))))))
theorem railplanlaw6_agrees.mono : ∀ a0 a1 a2 a3 a4 a5 a6 k, LeO (railplanlaw6_agrees.f k a0 a1 a2 a3 a4 a5 a6) (railplanlaw6_agrees.f (k + 1) a0 a1 a2 a3 a4 a5 a6) := by
  intro a0 a1 a2 a3 a4 a5 a6 k
  unfold railplanlaw6_agrees.f
  repeat' first
      | (with_reducible exact dynamics_Run.mono _ _ _ _ _ _ _ _)
      | (with_reducible exact dynamics_Speeds.mono _ _ _ _ _ _ _ _)
      | (with_reducible exact dynamics_Times.mono _ _ _ _ _ _ _ _)
      | (with_reducible exact railplankeep_Same_int.mono _ _ _)
      | (with_reducible exact railplanref6_Run.mono _ _ _ _ _ _ _ _)
      | (with_reducible exact railplanref6_Speeds.mono _ _ _ _ _ _ _ _)
      | (with_reducible exact railplanref6_Times.mono _ _ _ _ _ _ _ _)
      | (with_reducible exact LeO.refl _)
      | (with_reducible exact LeO.none _)
      | (with_reducible refine LeO.ite ?_ ?_)
      | (with_reducible refine LeO.bind ?_ (fun _ => ?_))
      | exact dynamics_Run.mono _ _ _ _ _ _ _ _
      | exact dynamics_Speeds.mono _ _ _ _ _ _ _ _
      | exact dynamics_Times.mono _ _ _ _ _ _ _ _
      | exact railplankeep_Same_int.mono _ _ _
      | exact railplanref6_Run.mono _ _ _ _ _ _ _ _
      | exact railplanref6_Speeds.mono _ _ _ _ _ _ _ _
      | exact railplanref6_Times.mono _ _ _ _ _ _ _ _
      | exact LeO.none _
      | refine LeO.ite ?_ ?_
      | refine LeO.bind ?_ (fun _ => ?_)
def railplanlaw6_agrees.T7 : Bool × List (List Nat × List Nat) := (true, [([], []), ([0], [0]), ([], []), ([2, 1], [2]), ([1, 3], [1, 3]), ([4, 3], [4]), ([5], [5]), ([5], [5]), ([6, 7, 5, 5], [5, 6, 7]), ([5, 8], [5, 8]), ([9, 8], [9]), ([10], [10]), ([10], [10]), ([11, 12, 10], [10, 11, 12]), ([10, 13], [10, 13]), ([14, 10], [14]), ([15], [15]), ([15], [15]), ([16, 17, 15, 15], [15, 16, 17]), ([15, 18], [15, 18]), ([19, 18], [19]), ([20], [20]), ([20], [20]), ([21, 22, 20], [20, 21, 22]), ([20, 23], [20, 23]), ([24, 20], [24]), ([25], [25]), ([25], [25]), ([26, 27, 25], [25, 26, 27]), ([25, 28], [25, 28]), ([29, 25], [29]), ([30], [30]), ([30], [30]), ([31, 32, 30], [30, 31, 32]), ([30, 33], [30, 33]), ([34, 30, 0, 1, 2, 3, 4, 5, 6, 7, 8, 9, 10, 11, 12, 13, 14, 15, 16, 17, 18, 19, 20, 21, 22, 23, 24, 25, 26, 27, 28, 29, 30, 31, 32, 33, 34], [34])])
def railplanlaw6_agrees.B7 : List Nat := [0, 1, 0, 7, 15, 31, 63, 63, 255, 511, 1023, 2047, 2047, 8191, 16383, 32767, 65535, 65535, 262143, 524287, 1048575, 2097151, 2097151, 8388607, 16777215, 33554431, 67108863, 67108863, 268435455, 536870911, 1073741823, 2147483647, 2147483647, 8589934591, 17179869183, 34359738367]
theorem railplanlaw6_agrees.tab7 : rtab .any (opsOf Try.f22 7) = railplanlaw6_agrees.T7 := by kernel_rfl
theorem railplanlaw6_agrees.bits7 : waitsOk railplanlaw6_agrees.T7.2 railplanlaw6_agrees.B7 = true := by kernel_rfl
set_option maxHeartbeats 8000000 in
set_option maxRecDepth 100000 in
theorem railplanlaw6_agrees.calls (k : Nat) (A0 : Option Addr) (c0 : Nat) (l0 : List (S34)) (a1 : Int) (a2_0 : ByteArray) (a2_1 : Int) (a2_2 : Int) (a2_3 : Int) (a2_4 : Int) (r : Bool) (w : World) (hr0 : Kd.C k34 w A0 l0.length l0) (hc0 : l0.length ≤ c0) (h : railplanlaw6_agrees.f k l0 a1 a2_0 a2_1 a2_2 a2_3 a2_4 = some r) (hT : Aside0 (r = true)) :
    Calls Try.prog 22 #[.slice A0 l0.length c0, .int .i64 a1, .agg #[.string a2_0, .int .i64 a2_1, .int .i64 a2_2, .int .i64 a2_3, .int .i64 a2_4]] w fun e w' => e = .returned (.bool r) ∧ Below w.heap.size w w' := by
  have hu26 := Try.underlying26
  have HR0 := Aside0.mk hr0
  have HC0 := Aside0.mk hc0
  clear hr0 hc0
  have HB := Aside0.mk (Below.refl w.heap.size w)
  have H : ((dynamics_Speeds.f k l0 a1 a2_0 a2_1 a2_2 a2_3 a2_4).bind fun bt257 => ((railplanref6_Speeds.f k l0 a1 a2_0 a2_1 a2_2 a2_3 a2_4).bind fun bt261 => ((dynamics_Times.f k l0 a1 a2_0 a2_1 a2_2 a2_3 a2_4).bind fun bt265 => ((railplanref6_Times.f k l0 a1 a2_0 a2_1 a2_2 a2_3 a2_4).bind fun bt269 => ((dynamics_Run.f k l0 a1 a2_0 a2_1 a2_2 a2_3 a2_4).bind fun bt273 => ((railplanref6_Run.f k l0 a1 a2_0 a2_1 a2_2 a2_3 a2_4).bind fun bt275 => ((dynamics_Check.f a2_0 a2_1 a2_2 a2_3 a2_4).bind fun t277 => ((railplanref6_CheckStock.f a2_0 a2_1 a2_2 a2_3 a2_4).bind fun t278 => (if (t277 == t278) = true then ((railplankeep_Same_int.f k bt257.1 bt261.1).bind fun t279 => (if t279 = true then (if bt257.2 = bt261.2 then ((railplankeep_Same_int.f k bt265.1 bt269.1).bind fun t280 => (if t280 = true then (if bt265.2 = bt269.2 then (if bt273.1 = bt275.1 then (some (bt273.2 == bt275.2)) else (some false)) else (some false)) else (some false))) else (some false)) else (some false))) else (some false)))))))))) = some r := h
  clear h
  replace H := Option.bind_eq_some_iff.mp H
  obtain ⟨⟨t257, t260⟩, A40, H⟩ := H
  replace H : ((railplanref6_Speeds.f k l0 a1 a2_0 a2_1 a2_2 a2_3 a2_4).bind fun bt261 => ((dynamics_Times.f k l0 a1 a2_0 a2_1 a2_2 a2_3 a2_4).bind fun bt265 => ((railplanref6_Times.f k l0 a1 a2_0 a2_1 a2_2 a2_3 a2_4).bind fun bt269 => ((dynamics_Run.f k l0 a1 a2_0 a2_1 a2_2 a2_3 a2_4).bind fun bt273 => ((railplanref6_Run.f k l0 a1 a2_0 a2_1 a2_2 a2_3 a2_4).bind fun bt275 => ((dynamics_Check.f a2_0 a2_1 a2_2 a2_3 a2_4).bind fun t277 => ((railplanref6_CheckStock.f a2_0 a2_1 a2_2 a2_3 a2_4).bind fun t278 => (if (t277 == t278) = true then ((railplankeep_Same_int.f k t257 bt261.1).bind fun t279 => (if t279 = true then (if t260 = bt261.2 then ((railplankeep_Same_int.f k bt265.1 bt269.1).bind fun t280 => (if t280 = true then (if bt265.2 = bt269.2 then (if bt273.1 = bt275.1 then (some (bt273.2 == bt275.2)) else (some false)) else (some false)) else (some false))) else (some false)) else (some false))) else (some false))))))))) = some r := H
  have A4 := Aside0.mk A40
  clear A40
  replace H := Option.bind_eq_some_iff.mp H
  obtain ⟨⟨t261, t264⟩, A50, H⟩ := H
  replace H : ((dynamics_Times.f k l0 a1 a2_0 a2_1 a2_2 a2_3 a2_4).bind fun bt265 => ((railplanref6_Times.f k l0 a1 a2_0 a2_1 a2_2 a2_3 a2_4).bind fun bt269 => ((dynamics_Run.f k l0 a1 a2_0 a2_1 a2_2 a2_3 a2_4).bind fun bt273 => ((railplanref6_Run.f k l0 a1 a2_0 a2_1 a2_2 a2_3 a2_4).bind fun bt275 => ((dynamics_Check.f a2_0 a2_1 a2_2 a2_3 a2_4).bind fun t277 => ((railplanref6_CheckStock.f a2_0 a2_1 a2_2 a2_3 a2_4).bind fun t278 => (if (t277 == t278) = true then ((railplankeep_Same_int.f k t257 t261).bind fun t279 => (if t279 = true then (if t260 = t264 then ((railplankeep_Same_int.f k bt265.1 bt269.1).bind fun t280 => (if t280 = true then (if bt265.2 = bt269.2 then (if bt273.1 = bt275.1 then (some (bt273.2 == bt275.2)) else (some false)) else (some false)) else (some false))) else (some false)) else (some false))) else (some false)))))))) = some r := H
  have A5 := Aside0.mk A50
  clear A50
  replace H := Option.bind_eq_some_iff.mp H
  obtain ⟨⟨t265, t268⟩, A60, H⟩ := H
  replace H : ((railplanref6_Times.f k l0 a1 a2_0 a2_1 a2_2 a2_3 a2_4).bind fun bt269 => ((dynamics_Run.f k l0 a1 a2_0 a2_1 a2_2 a2_3 a2_4).bind fun bt273 => ((railplanref6_Run.f k l0 a1 a2_0 a2_1 a2_2 a2_3 a2_4).bind fun bt275 => ((dynamics_Check.f a2_0 a2_1 a2_2 a2_3 a2_4).bind fun t277 => ((railplanref6_CheckStock.f a2_0 a2_1 a2_2 a2_3 a2_4).bind fun t278 => (if (t277 == t278) = true then ((railplankeep_Same_int.f k t257 t261).bind fun t279 => (if t279 = true then (if t260 = t264 then ((railplankeep_Same_int.f k t265 bt269.1).bind fun t280 => (if t280 = true then (if t268 = bt269.2 then (if bt273.1 = bt275.1 then (some (bt273.2 == bt275.2)) else (some false)) else (some false)) else (some false))) else (some false)) else (some false))) else (some false))))))) = some r := H
  have A6 := Aside0.mk A60
  clear A60
  replace H := Option.bind_eq_some_iff.mp H
  obtain ⟨⟨t269, t272⟩, A70, H⟩ := H
  replace H : ((dynamics_Run.f k l0 a1 a2_0 a2_1 a2_2 a2_3 a2_4).bind fun bt273 => ((railplanref6_Run.f k l0 a1 a2_0 a2_1 a2_2 a2_3 a2_4).bind fun bt275 => ((dynamics_Check.f a2_0 a2_1 a2_2 a2_3 a2_4).bind fun t277 => ((railplanref6_CheckStock.f a2_0 a2_1 a2_2 a2_3 a2_4).bind fun t278 => (if (t277 == t278) = true then ((railplankeep_Same_int.f k t257 t261).bind fun t279 => (if t279 = true then (if t260 = t264 then ((railplankeep_Same_int.f k t265 t269).bind fun t280 => (if t280 = true then (if t268 = t272 then (if bt273.1 = bt275.1 then (some (bt273.2 == bt275.2)) else (some false)) else (some false)) else (some false))) else (some false)) else (some false))) else (some false)))))) = some r := H
  have A7 := Aside0.mk A70
  clear A70
  replace H := Option.bind_eq_some_iff.mp H
  obtain ⟨⟨t273, t274⟩, A80, H⟩ := H
  replace H : ((railplanref6_Run.f k l0 a1 a2_0 a2_1 a2_2 a2_3 a2_4).bind fun bt275 => ((dynamics_Check.f a2_0 a2_1 a2_2 a2_3 a2_4).bind fun t277 => ((railplanref6_CheckStock.f a2_0 a2_1 a2_2 a2_3 a2_4).bind fun t278 => (if (t277 == t278) = true then ((railplankeep_Same_int.f k t257 t261).bind fun t279 => (if t279 = true then (if t260 = t264 then ((railplankeep_Same_int.f k t265 t269).bind fun t280 => (if t280 = true then (if t268 = t272 then (if t273 = bt275.1 then (some (t274 == bt275.2)) else (some false)) else (some false)) else (some false))) else (some false)) else (some false))) else (some false))))) = some r := H
  have A8 := Aside0.mk A80
  clear A80
  replace H := Option.bind_eq_some_iff.mp H
  obtain ⟨⟨t275, t276⟩, A90, H⟩ := H
  replace H : ((dynamics_Check.f a2_0 a2_1 a2_2 a2_3 a2_4).bind fun t277 => ((railplanref6_CheckStock.f a2_0 a2_1 a2_2 a2_3 a2_4).bind fun t278 => (if (t277 == t278) = true then ((railplankeep_Same_int.f k t257 t261).bind fun t279 => (if t279 = true then (if t260 = t264 then ((railplankeep_Same_int.f k t265 t269).bind fun t280 => (if t280 = true then (if t268 = t272 then (if t273 = t275 then (some (t274 == t276)) else (some false)) else (some false)) else (some false))) else (some false)) else (some false))) else (some false)))) = some r := H
  have A9 := Aside0.mk A90
  clear A90
  replace H := Option.bind_eq_some_iff.mp H
  obtain ⟨t277, A100, H⟩ := H
  replace H : ((railplanref6_CheckStock.f a2_0 a2_1 a2_2 a2_3 a2_4).bind fun t278 => (if (t277 == t278) = true then ((railplankeep_Same_int.f k t257 t261).bind fun t279 => (if t279 = true then (if t260 = t264 then ((railplankeep_Same_int.f k t265 t269).bind fun t280 => (if t280 = true then (if t268 = t272 then (if t273 = t275 then (some (t274 == t276)) else (some false)) else (some false)) else (some false))) else (some false)) else (some false))) else (some false))) = some r := H
  have A10 := Aside0.mk A100
  clear A100
  replace H := Option.bind_eq_some_iff.mp H
  obtain ⟨t278, A110, H⟩ := H
  replace H : (if (t277 == t278) = true then ((railplankeep_Same_int.f k t257 t261).bind fun t279 => (if t279 = true then (if t260 = t264 then ((railplankeep_Same_int.f k t265 t269).bind fun t280 => (if t280 = true then (if t268 = t272 then (if t273 = t275 then (some (t274 == t276)) else (some false)) else (some false)) else (some false))) else (some false)) else (some false))) else (some false)) = some r := H
  have A11 := Aside0.mk A110
  clear A110
  by_cases c12 : (t277 == t278) = true
  · rw [if_pos c12] at H
    have c12b0 : (t277 == t278) = true := c12
    (try (have c12b1 : decide (t277 = t278) = true := by simpa using c12))
    (try (have c12b2 : (t277 == t278) = true := by simpa using c12))
    clear c12
    replace H := Option.bind_eq_some_iff.mp H
    obtain ⟨t279, A130, H⟩ := H
    replace H : (if t279 = true then (if t260 = t264 then ((railplankeep_Same_int.f k t265 t269).bind fun t280 => (if t280 = true then (if t268 = t272 then (if t273 = t275 then (some (t274 == t276)) else (some false)) else (some false)) else (some false))) else (some false)) else (some false)) = some r := H
    have A13 := Aside0.mk A130
    clear A130
    by_cases c14 : t279 = true
    · subst c14
      have H1 : (if t260 = t264 then ((railplankeep_Same_int.f k t265 t269).bind fun t280 => (if t280 = true then (if t268 = t272 then (if t273 = t275 then (some (t274 == t276)) else (some false)) else (some false)) else (some false))) else (some false)) = some r := by rw [if_pos rfl] at H; exact H
      clear H
      have H := H1
      clear H1
      by_cases c15 : t260 = t264
      · rw [if_pos c15] at H
        have c15b0 : (t260 == t264) = true := beq_iff_eq.mpr c15
        have c15b1 : (t260 != t264) = false := bne_eq_false_iff_eq.mpr c15
        clear c15
        replace H := Option.bind_eq_some_iff.mp H
        obtain ⟨t280, A160, H⟩ := H
        replace H : (if t280 = true then (if t268 = t272 then (if t273 = t275 then (some (t274 == t276)) else (some false)) else (some false)) else (some false)) = some r := H
        have A16 := Aside0.mk A160
        clear A160
        by_cases c17 : t280 = true
        · subst c17
          have H1 : (if t268 = t272 then (if t273 = t275 then (some (t274 == t276)) else (some false)) else (some false)) = some r := by rw [if_pos rfl] at H; exact H
          clear H
          have H := H1
          clear H1
          by_cases c18 : t268 = t272
          · rw [if_pos c18] at H
            have c18b0 : (t268 == t272) = true := beq_iff_eq.mpr c18
            have c18b1 : (t268 != t272) = false := bne_eq_false_iff_eq.mpr c18
            clear c18
            by_cases c19 : t273 = t275
            · rw [if_pos c19] at H
              have c19b0 : (t273 == t275) = true := beq_iff_eq.mpr c19
              have c19b1 : (t273 != t275) = false := bne_eq_false_iff_eq.mpr c19
              clear c19
              obtain rfl := Option.some.inj H
              go_enter Try.func22, Try.ntmps22
              try go_wp2_with (first | ((with_reducible refine gate_dst (N := 5) rfl ?_); refine box_event ?hg (N := 5) ?hd (cs := #[.string a2_0, .int .i64 a2_1, .int .i64 a2_2, .int .i64 a2_3, .int .i64 a2_4]) (t := 26) ?hr ?_; (case hd => rfl); (case hg => rfl); (case hr => first | (go_simp; done) | (go_simp; rfl)); intro gb256 hg w20 hbox hb; have n0_ := Aside0.mk (below_step (by repeat (first | (with_reducible first | exact HB.out | apply below_alloc | apply pw_below_drewN | apply below_drew1) | exact HB.out)) hb); have n1_ := Aside0.mk (hbox); have n2_ := Aside0.mk ((by rw [hg]; exact (below_size (by repeat (first | (with_reducible first | exact HB.out | apply below_alloc | apply pw_below_drewN | apply below_drew1) | exact HB.out))) : w.heap.size ≤ gb256)); have n3_ := Aside0.mk ((by rw [hg]; exact (below_size (by repeat (first | (with_reducible first | exact HB.out | apply below_alloc | apply pw_below_drewN | apply below_drew1) | exact HB.out))) : w.heap.size ≤ gb256)); clear HB; have HB := n0_; have BK256 := n1_; have GW256 := n2_; have GE256 := n3_; clear n0_ n1_ n2_ n3_; clear hb hbox hg; have hcz21_0 : w20.cell? ⟨gb256, 0, none⟩ = some (.string a2_0) := (blk_cell BK256.out 0).trans rfl; have hcz21_1 : w20.cell? ⟨gb256, 1, none⟩ = some (.int .i64 a2_1) := (blk_cell BK256.out 1).trans rfl; have hcz21_2 : w20.cell? ⟨gb256, 2, none⟩ = some (.int .i64 a2_2) := (blk_cell BK256.out 2).trans rfl; have hcz21_3 : w20.cell? ⟨gb256, 3, none⟩ = some (.int .i64 a2_3) := (blk_cell BK256.out 3).trans rfl; have hcz21_4 : w20.cell? ⟨gb256, 4, none⟩ = some (.int .i64 a2_4) := (blk_cell BK256.out 4).trans rfl; have hfz21_0 := blk_frozen BK256.out 0; have hfz21_1 := blk_frozen BK256.out 1; have hfz21_2 := blk_frozen BK256.out 2; have hfz21_3 := blk_frozen BK256.out 3; have hfz21_4 := blk_frozen BK256.out 4) | ((with_reducible refine gate_callee (f := 17) rfl ?_); refine goesL_ (some 23) rfl rfl Try.func17 (by kernel_rfl) rfl #[.slice A0 l0.length c0, .int .i64 a1, .agg #[.string a2_0, .int .i64 a2_1, .int .i64 a2_2, .int .i64 a2_3, .int .i64 a2_4]] rfl (by (try simp only [List.map_toArray, List.map_cons, List.map_nil]); first | done | rfl | (simp only [List.length_drop, List.length_take]; rfl)) ?_; (with_reducible refine (dynamics_Speeds.calls k _ _ l0 a1 a2_0 a2_1 a2_2 a2_3 a2_4 t257 t260 _ ?side1 ?side2 A4.out).mono ?_); (case side1 => repeat (first | exact (Kd.C_below HR0.out HB.out) | (with_reducible refine Kd.C_alloc ?_ _) | (with_reducible refine Kd.C_drewN ?_ _) | (with_reducible refine Kd.C_drew ?_))); (case side2 => exact HC0.out); rintro e w22 ⟨v258, rfl, ho0, hb⟩; refine ⟨_, rfl, ?_⟩; have n0_ := Aside0.mk (Kd.R_lower ho0 (below_size (by repeat (first | (with_reducible first | exact HB.out | apply below_alloc | apply pw_below_drewN | apply below_drew1 | refine below_set ?_ GE256.out) | exact HB.out)))); have n1_ := Aside0.mk (blk_below (g := gb256) (o := .cells #[.string a2_0, .int .i64 a2_1, .int .i64 a2_2, .int .i64 a2_3, .int .i64 a2_4] 26 (0, 0)) (by (with_reducible repeat (first | refine blk_drewN ?_ _ | refine blk_drew ?_ | refine blk_alloc ?_ _)); exact BK256.out) hb); have n2_ := Aside0.mk (below_step (by repeat (first | (with_reducible first | exact HB.out | apply below_alloc | apply pw_below_drewN | apply below_drew1 | refine below_set ?_ GE256.out) | exact HB.out)) hb); clear BK256; clear HB; have HO259 := n0_; have BK256 := n1_; have HB := n2_; clear n0_ n1_ n2_; (try clear hb); (try clear hb2); (try clear hk); (try clear hi); (try clear ho0); have hcz23_0 : w22.cell? ⟨gb256, 0, none⟩ = some (.string a2_0) := (blk_cell BK256.out 0).trans rfl; have hcz23_1 : w22.cell? ⟨gb256, 1, none⟩ = some (.int .i64 a2_1) := (blk_cell BK256.out 1).trans rfl; have hcz23_2 : w22.cell? ⟨gb256, 2, none⟩ = some (.int .i64 a2_2) := (blk_cell BK256.out 2).trans rfl; have hcz23_3 : w22.cell? ⟨gb256, 3, none⟩ = some (.int .i64 a2_3) := (blk_cell BK256.out 3).trans rfl; have hcz23_4 : w22.cell? ⟨gb256, 4, none⟩ = some (.int .i64 a2_4) := (blk_cell BK256.out 4).trans rfl; have hfz23_0 := blk_frozen BK256.out 0; have hfz23_1 := blk_frozen BK256.out 1; have hfz23_2 := blk_frozen BK256.out 2; have hfz23_3 := blk_frozen BK256.out 3; have hfz23_4 := blk_frozen BK256.out 4) | ((with_reducible refine gate_callee (f := 32) rfl ?_); refine goesL_ (some 30) rfl rfl Try.func32 (by kernel_rfl) rfl #[.slice A0 l0.length c0, .int .i64 a1, .agg #[.string a2_0, .int .i64 a2_1, .int .i64 a2_2, .int .i64 a2_3, .int .i64 a2_4]] rfl (by (try simp only [List.map_toArray, List.map_cons, List.map_nil]); first | done | rfl | (simp only [List.length_drop, List.length_take]; rfl)) ?_; (with_reducible refine (railplanref6_Speeds.calls k _ _ l0 a1 a2_0 a2_1 a2_2 a2_3 a2_4 t261 t264 _ ?side1 ?side2 A5.out).mono ?_); (case side1 => repeat (first | exact (Kd.C_below HR0.out HB.out) | (with_reducible refine Kd.C_alloc ?_ _) | (with_reducible refine Kd.C_drewN ?_ _) | (with_reducible refine Kd.C_drew ?_))); (case side2 => exact HC0.out); rintro e w24 ⟨v262, rfl, ho0, hb⟩; refine ⟨_, rfl, ?_⟩; have n0_ := Aside0.mk (Kd.R_elder' (by (with_reducible repeat (first | apply Kd.R_alloc | apply Kd.R_drewN | apply Kd.R_drew)); exact HO259.out) (Kd.R_base ho0) hb); have n1_ := Aside0.mk (Kd.R_lower (Kd.R_new' ho0 (Kd.R_lt (by (with_reducible repeat (first | apply Kd.R_alloc | apply Kd.R_drewN | apply Kd.R_drew)); exact HO259.out))) (below_size (by repeat (first | (with_reducible first | exact HB.out | apply below_alloc | apply pw_below_drewN | apply below_drew1 | refine below_set ?_ GE256.out) | exact HB.out)))); have n2_ := Aside0.mk (blk_below (g := gb256) (o := .cells #[.string a2_0, .int .i64 a2_1, .int .i64 a2_2, .int .i64 a2_3, .int .i64 a2_4] 26 (0, 0)) (by (with_reducible repeat (first | refine blk_drewN ?_ _ | refine blk_drew ?_ | refine blk_alloc ?_ _)); exact BK256.out) hb); have n3_ := Aside0.mk (below_step (by repeat (first | (with_reducible first | exact HB.out | apply below_alloc | apply pw_below_drewN | apply below_drew1 | refine below_set ?_ GE256.out) | exact HB.out)) hb); clear HO259; clear BK256; clear HB; have HO259 := n0_; have HO263 := n1_; have BK256 := n2_; have HB := n3_; clear n0_ n1_ n2_ n3_; (try clear hb); (try clear hb2); (try clear hk); (try clear hi); (try clear ho0); have hcz25_0 : w24.cell? ⟨gb256, 0, none⟩ = some (.string a2_0) := (blk_cell BK256.out 0).trans rfl; have hcz25_1 : w24.cell? ⟨gb256, 1, none⟩ = some (.int .i64 a2_1) := (blk_cell BK256.out 1).trans rfl; have hcz25_2 : w24.cell? ⟨gb256, 2, none⟩ = some (.int .i64 a2_2) := (blk_cell BK256.out 2).trans rfl; have hcz25_3 : w24.cell? ⟨gb256, 3, none⟩ = some (.int .i64 a2_3) := (blk_cell BK256.out 3).trans rfl; have hcz25_4 : w24.cell? ⟨gb256, 4, none⟩ = some (.int .i64 a2_4) := (blk_cell BK256.out 4).trans rfl; have hfz25_0 := blk_frozen BK256.out 0; have hfz25_1 := blk_frozen BK256.out 1; have hfz25_2 := blk_frozen BK256.out 2; have hfz25_3 := blk_frozen BK256.out 3; have hfz25_4 := blk_frozen BK256.out 4) | ((with_reducible refine gate_callee (f := 19) rfl ?_); refine goesL_ (some 37) rfl rfl Try.func19 (by kernel_rfl) rfl #[.slice A0 l0.length c0, .int .i64 a1, .agg #[.string a2_0, .int .i64 a2_1, .int .i64 a2_2, .int .i64 a2_3, .int .i64 a2_4]] rfl (by (try simp only [List.map_toArray, List.map_cons, List.map_nil]); first | done | rfl | (simp only [List.length_drop, List.length_take]; rfl)) ?_; (with_reducible refine (dynamics_Times.calls k _ _ l0 a1 a2_0 a2_1 a2_2 a2_3 a2_4 t265 t268 _ ?side1 ?side2 A6.out).mono ?_); (case side1 => repeat (first | exact (Kd.C_below HR0.out HB.out) | (with_reducible refine Kd.C_alloc ?_ _) | (with_reducible refine Kd.C_drewN ?_ _) | (with_reducible refine Kd.C_drew ?_))); (case side2 => exact HC0.out); rintro e w26 ⟨v266, rfl, ho0, hb⟩; refine ⟨_, rfl, ?_⟩; have n0_ := Aside0.mk (Kd.R_elder' (by (with_reducible repeat (first | apply Kd.R_alloc | apply Kd.R_drewN | apply Kd.R_drew)); exact HO259.out) (Kd.R_base ho0) hb); have n1_ := Aside0.mk (Kd.R_elder' (by (with_reducible repeat (first | apply Kd.R_alloc | apply Kd.R_drewN | apply Kd.R_drew)); exact HO263.out) (Kd.R_base ho0) hb); have n2_ := Aside0.mk (Kd.R_lower (Kd.R_new' (Kd.R_new' ho0 (Kd.R_lt (by (with_reducible repeat (first | apply Kd.R_alloc | apply Kd.R_drewN | apply Kd.R_drew)); exact HO259.out))) (Kd.R_lt (by (with_reducible repeat (first | apply Kd.R_alloc | apply Kd.R_drewN | apply Kd.R_drew)); exact HO263.out))) (below_size (by repeat (first | (with_reducible first | exact HB.out | apply below_alloc | apply pw_below_drewN | apply below_drew1 | refine below_set ?_ GE256.out) | exact HB.out)))); have n3_ := Aside0.mk (blk_below (g := gb256) (o := .cells #[.string a2_0, .int .i64 a2_1, .int .i64 a2_2, .int .i64 a2_3, .int .i64 a2_4] 26 (0, 0)) (by (with_reducible repeat (first | refine blk_drewN ?_ _ | refine blk_drew ?_ | refine blk_alloc ?_ _)); exact BK256.out) hb); have n4_ := Aside0.mk (below_step (by repeat (first | (with_reducible first | exact HB.out | apply below_alloc | apply pw_below_drewN | apply below_drew1 | refine below_set ?_ GE256.out) | exact HB.out)) hb); clear HO259; clear HO263; clear BK256; clear HB; have HO259 := n0_; have HO263 := n1_; have HO267 := n2_; have BK256 := n3_; have HB := n4_; clear n0_ n1_ n2_ n3_ n4_; (try clear hb); (try clear hb2); (try clear hk); (try clear hi); (try clear ho0); have hcz27_0 : w26.cell? ⟨gb256, 0, none⟩ = some (.string a2_0) := (blk_cell BK256.out 0).trans rfl; have hcz27_1 : w26.cell? ⟨gb256, 1, none⟩ = some (.int .i64 a2_1) := (blk_cell BK256.out 1).trans rfl; have hcz27_2 : w26.cell? ⟨gb256, 2, none⟩ = some (.int .i64 a2_2) := (blk_cell BK256.out 2).trans rfl; have hcz27_3 : w26.cell? ⟨gb256, 3, none⟩ = some (.int .i64 a2_3) := (blk_cell BK256.out 3).trans rfl; have hcz27_4 : w26.cell? ⟨gb256, 4, none⟩ = some (.int .i64 a2_4) := (blk_cell BK256.out 4).trans rfl; have hfz27_0 := blk_frozen BK256.out 0; have hfz27_1 := blk_frozen BK256.out 1; have hfz27_2 := blk_frozen BK256.out 2; have hfz27_3 := blk_frozen BK256.out 3; have hfz27_4 := blk_frozen BK256.out 4) | ((with_reducible refine gate_callee (f := 33) rfl ?_); refine goesL_ (some 44) rfl rfl Try.func33 (by kernel_rfl) rfl #[.slice A0 l0.length c0, .int .i64 a1, .agg #[.string a2_0, .int .i64 a2_1, .int .i64 a2_2, .int .i64 a2_3, .int .i64 a2_4]] rfl (by (try simp only [List.map_toArray, List.map_cons, List.map_nil]); first | done | rfl | (simp only [List.length_drop, List.length_take]; rfl)) ?_; (with_reducible refine (railplanref6_Times.calls k _ _ l0 a1 a2_0 a2_1 a2_2 a2_3 a2_4 t269 t272 _ ?side1 ?side2 A7.out).mono ?_); (case side1 => repeat (first | exact (Kd.C_below HR0.out HB.out) | (with_reducible refine Kd.C_alloc ?_ _) | (with_reducible refine Kd.C_drewN ?_ _) | (with_reducible refine Kd.C_drew ?_))); (case side2 => exact HC0.out); rintro e w28 ⟨v270, rfl, ho0, hb⟩; refine ⟨_, rfl, ?_⟩; have n0_ := Aside0.mk (Kd.R_elder' (by (with_reducible repeat (first | apply Kd.R_alloc | apply Kd.R_drewN | apply Kd.R_drew)); exact HO259.out) (Kd.R_base ho0) hb); have n1_ := Aside0.mk (Kd.R_elder' (by (with_reducible repeat (first | apply Kd.R_alloc | apply Kd.R_drewN | apply Kd.R_drew)); exact HO263.out) (Kd.R_base ho0) hb); have n2_ := Aside0.mk (Kd.R_elder' (by (with_reducible repeat (first | apply Kd.R_alloc | apply Kd.R_drewN | apply Kd.R_drew)); exact HO267.out) (Kd.R_base ho0) hb); have n3_ := Aside0.mk (Kd.R_lower (Kd.R_new' (Kd.R_new' (Kd.R_new' ho0 (Kd.R_lt (by (with_reducible repeat (first | apply Kd.R_alloc | apply Kd.R_drewN | apply Kd.R_drew)); exact HO259.out))) (Kd.R_lt (by (with_reducible repeat (first | apply Kd.R_alloc | apply Kd.R_drewN | apply Kd.R_drew)); exact HO263.out))) (Kd.R_lt (by (with_reducible repeat (first | apply Kd.R_alloc | apply Kd.R_drewN | apply Kd.R_drew)); exact HO267.out))) (below_size (by repeat (first | (with_reducible first | exact HB.out | apply below_alloc | apply pw_below_drewN | apply below_drew1 | refine below_set ?_ GE256.out) | exact HB.out)))); have n4_ := Aside0.mk (blk_below (g := gb256) (o := .cells #[.string a2_0, .int .i64 a2_1, .int .i64 a2_2, .int .i64 a2_3, .int .i64 a2_4] 26 (0, 0)) (by (with_reducible repeat (first | refine blk_drewN ?_ _ | refine blk_drew ?_ | refine blk_alloc ?_ _)); exact BK256.out) hb); have n5_ := Aside0.mk (below_step (by repeat (first | (with_reducible first | exact HB.out | apply below_alloc | apply pw_below_drewN | apply below_drew1 | refine below_set ?_ GE256.out) | exact HB.out)) hb); clear HO259; clear HO263; clear HO267; clear BK256; clear HB; have HO259 := n0_; have HO263 := n1_; have HO267 := n2_; have HO271 := n3_; have BK256 := n4_; have HB := n5_; clear n0_ n1_ n2_ n3_ n4_ n5_; (try clear hb); (try clear hb2); (try clear hk); (try clear hi); (try clear ho0); have hcz29_0 : w28.cell? ⟨gb256, 0, none⟩ = some (.string a2_0) := (blk_cell BK256.out 0).trans rfl; have hcz29_1 : w28.cell? ⟨gb256, 1, none⟩ = some (.int .i64 a2_1) := (blk_cell BK256.out 1).trans rfl; have hcz29_2 : w28.cell? ⟨gb256, 2, none⟩ = some (.int .i64 a2_2) := (blk_cell BK256.out 2).trans rfl; have hcz29_3 : w28.cell? ⟨gb256, 3, none⟩ = some (.int .i64 a2_3) := (blk_cell BK256.out 3).trans rfl; have hcz29_4 : w28.cell? ⟨gb256, 4, none⟩ = some (.int .i64 a2_4) := (blk_cell BK256.out 4).trans rfl; have hfz29_0 := blk_frozen BK256.out 0; have hfz29_1 := blk_frozen BK256.out 1; have hfz29_2 := blk_frozen BK256.out 2; have hfz29_3 := blk_frozen BK256.out 3; have hfz29_4 := blk_frozen BK256.out 4) | ((with_reducible refine gate_callee (f := 20) rfl ?_); refine goesL_ (some 51) rfl rfl Try.func20 (by kernel_rfl) rfl #[.slice A0 l0.length c0, .int .i64 a1, .agg #[.string a2_0, .int .i64 a2_1, .int .i64 a2_2, .int .i64 a2_3, .int .i64 a2_4]] rfl (by (try simp only [List.map_toArray, List.map_cons, List.map_nil]); first | done | rfl | (simp only [List.length_drop, List.length_take]; rfl)) ?_; (with_reducible refine (dynamics_Run.calls k _ _ l0 a1 a2_0 a2_1 a2_2 a2_3 a2_4 t273 t274 _ ?side1 ?side2 A8.out).mono ?_); (case side1 => repeat (first | exact (Kd.C_below HR0.out HB.out) | (with_reducible refine Kd.C_alloc ?_ _) | (with_reducible refine Kd.C_drewN ?_ _) | (with_reducible refine Kd.C_drew ?_))); (case side2 => exact HC0.out); rintro e w30 ⟨rfl, hb⟩; refine ⟨_, rfl, ?_⟩; have n0_ := Aside0.mk (Kd.R_below (by (with_reducible repeat (first | apply Kd.R_alloc | apply Kd.R_drewN | apply Kd.R_drew)); exact HO259.out) hb); have n1_ := Aside0.mk (Kd.R_below (by (with_reducible repeat (first | apply Kd.R_alloc | apply Kd.R_drewN | apply Kd.R_drew)); exact HO263.out) hb); have n2_ := Aside0.mk (Kd.R_below (by (with_reducible repeat (first | apply Kd.R_alloc | apply Kd.R_drewN | apply Kd.R_drew)); exact HO267.out) hb); have n3_ := Aside0.mk (Kd.R_below (by (with_reducible repeat (first | apply Kd.R_alloc | apply Kd.R_drewN | apply Kd.R_drew)); exact HO271.out) hb); have n4_ := Aside0.mk (blk_below (g := gb256) (o := .cells #[.string a2_0, .int .i64 a2_1, .int .i64 a2_2, .int .i64 a2_3, .int .i64 a2_4] 26 (0, 0)) (by (with_reducible repeat (first | refine blk_drewN ?_ _ | refine blk_drew ?_ | refine blk_alloc ?_ _)); exact BK256.out) hb); have n5_ := Aside0.mk (below_step (by repeat (first | (with_reducible first | exact HB.out | apply below_alloc | apply pw_below_drewN | apply below_drew1 | refine below_set ?_ GE256.out) | exact HB.out)) hb); clear HO259; clear HO263; clear HO267; clear HO271; clear BK256; clear HB; have HO259 := n0_; have HO263 := n1_; have HO267 := n2_; have HO271 := n3_; have BK256 := n4_; have HB := n5_; clear n0_ n1_ n2_ n3_ n4_ n5_; (try clear hb); (try clear hb2); (try clear hk); (try clear hi); have hcz31_0 : w30.cell? ⟨gb256, 0, none⟩ = some (.string a2_0) := (blk_cell BK256.out 0).trans rfl; have hcz31_1 : w30.cell? ⟨gb256, 1, none⟩ = some (.int .i64 a2_1) := (blk_cell BK256.out 1).trans rfl; have hcz31_2 : w30.cell? ⟨gb256, 2, none⟩ = some (.int .i64 a2_2) := (blk_cell BK256.out 2).trans rfl; have hcz31_3 : w30.cell? ⟨gb256, 3, none⟩ = some (.int .i64 a2_3) := (blk_cell BK256.out 3).trans rfl; have hcz31_4 : w30.cell? ⟨gb256, 4, none⟩ = some (.int .i64 a2_4) := (blk_cell BK256.out 4).trans rfl; have hfz31_0 := blk_frozen BK256.out 0; have hfz31_1 := blk_frozen BK256.out 1; have hfz31_2 := blk_frozen BK256.out 2; have hfz31_3 := blk_frozen BK256.out 3; have hfz31_4 := blk_frozen BK256.out 4) | ((with_reducible refine gate_callee (f := 34) rfl ?_); refine goesL_ (some 58) rfl rfl Try.func34 (by kernel_rfl) rfl #[.slice A0 l0.length c0, .int .i64 a1, .agg #[.string a2_0, .int .i64 a2_1, .int .i64 a2_2, .int .i64 a2_3, .int .i64 a2_4]] rfl (by (try simp only [List.map_toArray, List.map_cons, List.map_nil]); first | done | rfl | (simp only [List.length_drop, List.length_take]; rfl)) ?_; (with_reducible refine (railplanref6_Run.calls k _ _ l0 a1 a2_0 a2_1 a2_2 a2_3 a2_4 t275 t276 _ ?side1 ?side2 A9.out).mono ?_); (case side1 => repeat (first | exact (Kd.C_below HR0.out HB.out) | (with_reducible refine Kd.C_alloc ?_ _) | (with_reducible refine Kd.C_drewN ?_ _) | (with_reducible refine Kd.C_drew ?_))); (case side2 => exact HC0.out); rintro e w32 ⟨rfl, hb⟩; refine ⟨_, rfl, ?_⟩; have n0_ := Aside0.mk (Kd.R_below (by (with_reducible repeat (first | apply Kd.R_alloc | apply Kd.R_drewN | apply Kd.R_drew)); exact HO259.out) hb); have n1_ := Aside0.mk (Kd.R_below (by (with_reducible repeat (first | apply Kd.R_alloc | apply Kd.R_drewN | apply Kd.R_drew)); exact HO263.out) hb); have n2_ := Aside0.mk (Kd.R_below (by (with_reducible repeat (first | apply Kd.R_alloc | apply Kd.R_drewN | apply Kd.R_drew)); exact HO267.out) hb); have n3_ := Aside0.mk (Kd.R_below (by (with_reducible repeat (first | apply Kd.R_alloc | apply Kd.R_drewN | apply Kd.R_drew)); exact HO271.out) hb); have n4_ := Aside0.mk (blk_below (g := gb256) (o := .cells #[.string a2_0, .int .i64 a2_1, .int .i64 a2_2, .int .i64 a2_3, .int .i64 a2_4] 26 (0, 0)) (by (with_reducible repeat (first | refine blk_drewN ?_ _ | refine blk_drew ?_ | refine blk_alloc ?_ _)); exact BK256.out) hb); have n5_ := Aside0.mk (below_step (by repeat (first | (with_reducible first | exact HB.out | apply below_alloc | apply pw_below_drewN | apply below_drew1 | refine below_set ?_ GE256.out) | exact HB.out)) hb); clear HO259; clear HO263; clear HO267; clear HO271; clear BK256; clear HB; have HO259 := n0_; have HO263 := n1_; have HO267 := n2_; have HO271 := n3_; have BK256 := n4_; have HB := n5_; clear n0_ n1_ n2_ n3_ n4_ n5_; (try clear hb); (try clear hb2); (try clear hk); (try clear hi)))
              have n0_ := Aside0.mk (Kd.R_drew HO259.out)
              have n1_ := Aside0.mk (Kd.R_drew HO263.out)
              have n2_ := Aside0.mk (Kd.R_drew HO267.out)
              have n3_ := Aside0.mk (Kd.R_drew HO271.out)
              have n4_ := Aside0.mk (blk_drew BK256.out)
              have n5_ := Aside0.mk (below_drew1 HB.out)
              clear HO259
              clear HO263
              clear HO267
              clear HO271
              clear BK256
              clear HB
              have HO259 := n0_
              have HO263 := n1_
              have HO267 := n2_
              have HO271 := n3_
              have BK256 := n4_
              have HB := n5_
              clear n0_ n1_ n2_ n3_ n4_ n5_
              refine start_ (n := 36) (S := fun w' => w'.cell? ⟨gb256, 0, none⟩ = some (.string a2_0) ∧ w'.cell? ⟨gb256, 1, none⟩ = some (.int .i64 a2_1) ∧ w'.cell? ⟨gb256, 2, none⟩ = some (.int .i64 a2_2) ∧ w'.cell? ⟨gb256, 3, none⟩ = some (.int .i64 a2_3) ∧ w'.cell? ⟨gb256, 4, none⟩ = some (.int .i64 a2_4)) (ds := []) #[false, false, false, false, false, false, false, false, false, false, false, false, false, false, false, false, false, false, false, false, false, false, false, false, false, false, false, false, false, false, false, false, false, false, false, false] (by kernel_rfl) rfl rfl ⟨(blk_cell BK256.out 0).trans rfl, (blk_cell BK256.out 1).trans rfl, (blk_cell BK256.out 2).trans rfl, (blk_cell BK256.out 3).trans rfl, (blk_cell BK256.out 4).trans rfl⟩ (fun hHeld => ?_); refine with_tabW railplanlaw6_agrees.tab7 railplanlaw6_agrees.bits7 (fun HT_ HW_ => ?_)
              generalize w32.drew = w33 at HO259 HO263 HO267 HO271 BK256 HB hHeld ⊢
              refine take_ (i := 0) (N := some 61) (v := ?_) (a' := ?_) #[true, false, false, false, false, false, false, false, false, false, false, false, false, false, false, false, false, false, false, false, false, false, false, false, false, false, false, false, false, false, false, false, false, false, false, false] rfl rfl (take_ofW HT_.out HW_.out (by kernel_rfl)) (fun _ _ _ h => h) (Or.inl ⟨by rfl, ?_⟩) hHeld ?_ ?_
              rotate_left
              · rintro w' ⟨s0, s1, s2, s3, s4⟩
                go_simp
                with_reducible rfl
              rotate_left
              · simp only [Act.put, List.setIfInBounds_toArray, List.set_cons_zero, List.set_cons_succ, i64_w, i32_w]
                rfl
              refine take_ (i := 2) (N := some 63) (v := ?_) (a' := ?_) #[true, false, true, false, false, false, false, false, false, false, false, false, false, false, false, false, false, false, false, false, false, false, false, false, false, false, false, false, false, false, false, false, false, false, false, false] rfl rfl (take_ofW HT_.out HW_.out (by kernel_rfl)) (fun _ _ _ h => h) (Or.inl ⟨by rfl, ?_⟩) hHeld ?_ ?_
              rotate_left
              · rintro w' ⟨s0, s1, s2, s3, s4⟩
                go_simp
                with_reducible rfl
              rotate_left
              · simp only [Act.put, List.setIfInBounds_toArray, List.set_cons_zero, List.set_cons_succ, i64_w, i32_w]
                rfl
              refine one_ (i := 1) (N := some 62) #[true, true, true, false, false, false, false, false, false, false, false, false, false, false, false, false, false, false, false, false, false, false, false, false, false, false, false, false, false, false, false, false, false, false, false, false] rfl rfl (one_of HT_.out (by kernel_rfl)) (by decide) (fun K hK => ?_)
              refine goes_ Try.func15 (by kernel_rfl) rfl #[.agg #[.string a2_0, .int .i64 a2_1, .int .i64 a2_2, .int .i64 a2_3, .int .i64 a2_4]] (by rfl) rfl rfl (by (try simp only [List.map_toArray, List.map_cons, List.map_nil]); first | done | rfl | (simp only [List.length_drop, List.length_take]; rfl)) ?_
              with_reducible refine (dynamics_Check.calls a2_0 a2_1 a2_2 a2_3 a2_4 t277 _ A10.out).mono ?_
              rintro e w34 ⟨rfl, hb⟩
              refine ⟨_, rfl, ?_⟩
              have n0_ := Aside0.mk (Kd.R_below (by (with_reducible repeat (first | apply Kd.R_alloc | apply Kd.R_drewN | apply Kd.R_drew)); exact HO259.out) hb)
              have n1_ := Aside0.mk (Kd.R_below (by (with_reducible repeat (first | apply Kd.R_alloc | apply Kd.R_drewN | apply Kd.R_drew)); exact HO263.out) hb)
              have n2_ := Aside0.mk (Kd.R_below (by (with_reducible repeat (first | apply Kd.R_alloc | apply Kd.R_drewN | apply Kd.R_drew)); exact HO267.out) hb)
              have n3_ := Aside0.mk (Kd.R_below (by (with_reducible repeat (first | apply Kd.R_alloc | apply Kd.R_drewN | apply Kd.R_drew)); exact HO271.out) hb)
              have n4_ := Aside0.mk (blk_below (g := gb256) (o := .cells #[.string a2_0, .int .i64 a2_1, .int .i64 a2_2, .int .i64 a2_3, .int .i64 a2_4] 26 (0, 0)) (by (with_reducible repeat (first | refine blk_drewN ?_ _ | refine blk_drew ?_ | refine blk_alloc ?_ _)); exact BK256.out) hb)
              have n5_ := Aside0.mk (below_step (by repeat (first | (with_reducible first | exact HB.out | apply below_alloc | apply pw_below_drewN | apply below_drew1 | refine below_set ?_ GE256.out) | exact HB.out)) hb)
              clear HO259
              clear HO263
              clear HO267
              clear HO271
              clear BK256
              clear HB
              have HO259 := n0_
              have HO263 := n1_
              have HO267 := n2_
              have HO271 := n3_
              have BK256 := n4_
              have HB := n5_
              clear n0_ n1_ n2_ n3_ n4_ n5_
              (try clear hb)
              (try clear hb2)
              (try clear hk)
              (try clear hi)
              refine hK.out _ _ ⟨(blk_cell BK256.out 0).trans rfl, (blk_cell BK256.out 1).trans rfl, (blk_cell BK256.out 2).trans rfl, (blk_cell BK256.out 3).trans rfl, (blk_cell BK256.out 4).trans rfl⟩ (fun hHeld => ?_)
              clear hK K
              refine norm_ (a' := ?_) ?_ ?_
              rotate_left
              · show Act.put _ (some 62) _ = _
                simp only [Act.put, List.setIfInBounds_toArray, List.set_cons_zero, List.set_cons_succ, i64_w, i32_w]
                rfl
              refine one_ (i := 3) (N := some 64) #[true, true, true, true, false, false, false, false, false, false, false, false, false, false, false, false, false, false, false, false, false, false, false, false, false, false, false, false, false, false, false, false, false, false, false, false] rfl rfl (one_of HT_.out (by kernel_rfl)) (by decide) (fun K hK => ?_)
              refine goes_ Try.func35 (by kernel_rfl) rfl #[.agg #[.string a2_0, .int .i64 a2_1, .int .i64 a2_2, .int .i64 a2_3, .int .i64 a2_4]] (by rfl) rfl rfl (by (try simp only [List.map_toArray, List.map_cons, List.map_nil]); first | done | rfl | (simp only [List.length_drop, List.length_take]; rfl)) ?_
              with_reducible refine (railplanref6_CheckStock.calls a2_0 a2_1 a2_2 a2_3 a2_4 t278 _ A11.out).mono ?_
              rintro e w35 ⟨rfl, hb⟩
              refine ⟨_, rfl, ?_⟩
              have n0_ := Aside0.mk (Kd.R_below (by (with_reducible repeat (first | apply Kd.R_alloc | apply Kd.R_drewN | apply Kd.R_drew)); exact HO259.out) hb)
              have n1_ := Aside0.mk (Kd.R_below (by (with_reducible repeat (first | apply Kd.R_alloc | apply Kd.R_drewN | apply Kd.R_drew)); exact HO263.out) hb)
              have n2_ := Aside0.mk (Kd.R_below (by (with_reducible repeat (first | apply Kd.R_alloc | apply Kd.R_drewN | apply Kd.R_drew)); exact HO267.out) hb)
              have n3_ := Aside0.mk (Kd.R_below (by (with_reducible repeat (first | apply Kd.R_alloc | apply Kd.R_drewN | apply Kd.R_drew)); exact HO271.out) hb)
              have n4_ := Aside0.mk (blk_below (g := gb256) (o := .cells #[.string a2_0, .int .i64 a2_1, .int .i64 a2_2, .int .i64 a2_3, .int .i64 a2_4] 26 (0, 0)) (by (with_reducible repeat (first | refine blk_drewN ?_ _ | refine blk_drew ?_ | refine blk_alloc ?_ _)); exact BK256.out) hb)
              have n5_ := Aside0.mk (below_step (by repeat (first | (with_reducible first | exact HB.out | apply below_alloc | apply pw_below_drewN | apply below_drew1 | refine below_set ?_ GE256.out) | exact HB.out)) hb)
              clear HO259
              clear HO263
              clear HO267
              clear HO271
              clear BK256
              clear HB
              have HO259 := n0_
              have HO263 := n1_
              have HO267 := n2_
              have HO271 := n3_
              have BK256 := n4_
              have HB := n5_
              clear n0_ n1_ n2_ n3_ n4_ n5_
              (try clear hb)
              (try clear hb2)
              (try clear hk)
              (try clear hi)
              obtain ⟨Ao36, co36, eo36⟩ := Kd.R_slice HO259.out
              (first | subst eo36 | (injection eo36 with f1_ f2_ f3_; have f4_ := f1_.symm; have f5_ := f3_.symm; clear f1_ f2_ f3_; subst f4_; subst f5_))
              obtain ⟨Ao37, co37, eo37⟩ := Kd.R_slice HO263.out
              (first | subst eo37 | (injection eo37 with f1_ f2_ f3_; have f4_ := f1_.symm; have f5_ := f3_.symm; clear f1_ f2_ f3_; subst f4_; subst f5_))
              refine hK.out _ _ ⟨(blk_cell BK256.out 0).trans rfl, (blk_cell BK256.out 1).trans rfl, (blk_cell BK256.out 2).trans rfl, (blk_cell BK256.out 3).trans rfl, (blk_cell BK256.out 4).trans rfl⟩ (fun hHeld => ?_)
              clear hK K
              refine norm_ (a' := ?_) ?_ ?_
              rotate_left
              · show Act.put _ (some 64) _ = _
                simp only [Act.put, List.setIfInBounds_toArray, List.set_cons_zero, List.set_cons_succ, i64_w, i32_w]
                rfl
              refine pure_ (i := 4) (N := some 65) (v := ?_) (a' := ?_) #[true, true, true, true, true, false, false, false, false, false, false, false, false, false, false, false, false, false, false, false, false, false, false, false, false, false, false, false, false, false, false, false, false, false, false, false] rfl rfl (any_of HT_.out (by kernel_rfl)) (fun _ _ _ h => h) (Or.inl ⟨by rfl, ?_⟩) ?_ ?_
              rotate_left
              · intro w'
                go_simp
                with_reducible rfl
              rotate_left
              · simp only [Act.put, List.setIfInBounds_toArray, List.set_cons_zero, List.set_cons_succ, i64_w, i32_w]
                rfl
              refine pure_ (i := 5) (N := some 66) (v := ?_) (a' := ?_) #[true, true, true, true, true, true, false, false, false, false, false, false, false, false, false, false, false, false, false, false, false, false, false, false, false, false, false, false, false, false, false, false, false, false, false, false] rfl rfl (any_of HT_.out (by kernel_rfl)) (fun _ _ _ h => h) (Or.inl ⟨by rfl, ?_⟩) ?_ ?_
              rotate_left
              · intro w'
                go_simp
                with_reducible rfl
              rotate_left
              · simp only [Act.put, List.setIfInBounds_toArray, List.set_cons_zero, List.set_cons_succ, i64_w, i32_w]
                rfl
              refine pure_ (i := 6) (N := some 67) (v := ?_) (a' := ?_) #[true, true, true, true, true, true, true, false, false, false, false, false, false, false, false, false, false, false, false, false, false, false, false, false, false, false, false, false, false, false, false, false, false, false, false, false] rfl rfl (any_of HT_.out (by kernel_rfl)) (fun _ _ _ h => h) (Or.inl ⟨by rfl, ?_⟩) ?_ ?_
              rotate_left
              · intro w'
                go_simp
                with_reducible rfl
              rotate_left
              · simp only [Act.put, List.setIfInBounds_toArray, List.set_cons_zero, List.set_cons_succ, i64_w, i32_w]
                rfl
              refine pure_ (i := 7) (N := some 68) (v := ?_) (a' := ?_) #[true, true, true, true, true, true, true, true, false, false, false, false, false, false, false, false, false, false, false, false, false, false, false, false, false, false, false, false, false, false, false, false, false, false, false, false] rfl rfl (any_of HT_.out (by kernel_rfl)) (fun _ _ _ h => h) (Or.inl ⟨by rfl, ?_⟩) ?_ ?_
              rotate_left
              · intro w'
                go_simp
                with_reducible rfl
              rotate_left
              · simp only [Act.put, List.setIfInBounds_toArray, List.set_cons_zero, List.set_cons_succ, i64_w, i32_w]
                rfl
              refine one_ (i := 8) (N := some 69) #[true, true, true, true, true, true, true, true, true, false, false, false, false, false, false, false, false, false, false, false, false, false, false, false, false, false, false, false, false, false, false, false, false, false, false, false] rfl rfl (one_of HT_.out (by kernel_rfl)) (by decide) (fun K hK => ?_)
              refine goes_ Try.func21 (by kernel_rfl) rfl #[.slice Ao36 t257.length co36, .slice Ao37 t261.length co37] (by rfl) rfl rfl (by (try simp only [List.map_toArray, List.map_cons, List.map_nil]); first | done | rfl | (simp only [List.length_drop, List.length_take]; rfl)) ?_
              with_reducible refine (railplankeep_Same_int.calls k _ _ t257 _ _ t261 true _ ?side1 ?side2 ?side3 ?side4 A13.out).mono ?_
              (case side1 => repeat (first | exact (Kd.R_reads' HO259.out).2.2 | (with_reducible refine Kd.C_alloc ?_ _) | (with_reducible refine Kd.C_drewN ?_ _) | (with_reducible refine Kd.C_drew ?_)))
              (case side2 => exact (Kd.R_reads' HO259.out).2.1)
              (case side3 => repeat (first | exact (Kd.R_reads' HO263.out).2.2 | (with_reducible refine Kd.C_alloc ?_ _) | (with_reducible refine Kd.C_drewN ?_ _) | (with_reducible refine Kd.C_drew ?_)))
              (case side4 => exact (Kd.R_reads' HO263.out).2.1)
              rintro e w' ⟨rfl, ⟨nd, rfl⟩⟩
              refine ⟨_, rfl, ?_⟩
              obtain ⟨Ao38, co38, eo38⟩ := Kd.R_slice HO267.out
              (first | subst eo38 | (injection eo38 with f1_ f2_ f3_; have f4_ := f1_.symm; have f5_ := f3_.symm; clear f1_ f2_ f3_; subst f4_; subst f5_))
              obtain ⟨Ao39, co39, eo39⟩ := Kd.R_slice HO271.out
              (first | subst eo39 | (injection eo39 with f1_ f2_ f3_; have f4_ := f1_.symm; have f5_ := f3_.symm; clear f1_ f2_ f3_; subst f4_; subst f5_))
              refine hK.out _ _ ⟨(blk_cell BK256.out 0).trans rfl, (blk_cell BK256.out 1).trans rfl, (blk_cell BK256.out 2).trans rfl, (blk_cell BK256.out 3).trans rfl, (blk_cell BK256.out 4).trans rfl⟩ (fun hHeld => ?_)
              clear hK K
              refine norm_ (a' := ?_) ?_ ?_
              rotate_left
              · show Act.put _ (some 69) _ = _
                simp only [Act.put, List.setIfInBounds_toArray, List.set_cons_zero, List.set_cons_succ, i64_w, i32_w]
                rfl
              refine pure_ (i := 9) (N := some 70) (v := ?_) (a' := ?_) #[true, true, true, true, true, true, true, true, true, true, false, false, false, false, false, false, false, false, false, false, false, false, false, false, false, false, false, false, false, false, false, false, false, false, false, false] rfl rfl (any_of HT_.out (by kernel_rfl)) (fun _ _ _ h => h) (Or.inl ⟨by rfl, ?_⟩) ?_ ?_
              rotate_left
              · intro w'
                go_simp
                with_reducible rfl
              rotate_left
              · simp only [Act.put, List.setIfInBounds_toArray, List.set_cons_zero, List.set_cons_succ, i64_w, i32_w]
                rfl
              refine pure_ (i := 10) (N := some 71) (v := ?_) (a' := ?_) #[true, true, true, true, true, true, true, true, true, true, true, false, false, false, false, false, false, false, false, false, false, false, false, false, false, false, false, false, false, false, false, false, false, false, false, false] rfl rfl (any_of HT_.out (by kernel_rfl)) (fun _ _ _ h => h) (Or.inl ⟨by rfl, ?_⟩) ?_ ?_
              rotate_left
              · intro w'
                go_simp
                with_reducible rfl
              rotate_left
              · simp only [Act.put, List.setIfInBounds_toArray, List.set_cons_zero, List.set_cons_succ, i64_w, i32_w]
                rfl
              refine pure_ (i := 11) (N := some 72) (v := ?_) (a' := ?_) #[true, true, true, true, true, true, true, true, true, true, true, true, false, false, false, false, false, false, false, false, false, false, false, false, false, false, false, false, false, false, false, false, false, false, false, false] rfl rfl (any_of HT_.out (by kernel_rfl)) (fun _ _ _ h => h) (Or.inl ⟨by rfl, ?_⟩) ?_ ?_
              rotate_left
              · intro w'
                go_simp
                with_reducible rfl
              rotate_left
              · simp only [Act.put, List.setIfInBounds_toArray, List.set_cons_zero, List.set_cons_succ, i64_w, i32_w]
                rfl
              refine pure_ (i := 12) (N := some 73) (v := ?_) (a' := ?_) #[true, true, true, true, true, true, true, true, true, true, true, true, true, false, false, false, false, false, false, false, false, false, false, false, false, false, false, false, false, false, false, false, false, false, false, false] rfl rfl (any_of HT_.out (by kernel_rfl)) (fun _ _ _ h => h) (Or.inl ⟨by rfl, ?_⟩) ?_ ?_
              rotate_left
              · intro w'
                go_simp
                with_reducible rfl
              rotate_left
              · simp only [Act.put, List.setIfInBounds_toArray, List.set_cons_zero, List.set_cons_succ, i64_w, i32_w]
                rfl
              refine pure_ (i := 13) (N := some 74) (v := ?_) (a' := ?_) #[true, true, true, true, true, true, true, true, true, true, true, true, true, true, false, false, false, false, false, false, false, false, false, false, false, false, false, false, false, false, false, false, false, false, false, false] rfl rfl (any_of HT_.out (by kernel_rfl)) (fun _ _ _ h => h) (Or.inl ⟨by rfl, ?_⟩) ?_ ?_
              rotate_left
              · intro w'
                go_simp
                with_reducible rfl
              rotate_left
              · simp only [Act.put, List.setIfInBounds_toArray, List.set_cons_zero, List.set_cons_succ, i64_w, i32_w]
                rfl
              refine pure_ (i := 14) (N := some 75) (v := ?_) (a' := ?_) #[true, true, true, true, true, true, true, true, true, true, true, true, true, true, true, false, false, false, false, false, false, false, false, false, false, false, false, false, false, false, false, false, false, false, false, false] rfl rfl (any_of HT_.out (by kernel_rfl)) (fun _ _ _ h => h) (Or.inl ⟨by rfl, ?_⟩) ?_ ?_
              rotate_left
              · intro w'
                go_simp
                with_reducible rfl
              rotate_left
              · simp only [Act.put, List.setIfInBounds_toArray, List.set_cons_zero, List.set_cons_succ, i64_w, i32_w]
                rfl
              refine pure_ (i := 15) (N := some 76) (v := ?_) (a' := ?_) #[true, true, true, true, true, true, true, true, true, true, true, true, true, true, true, true, false, false, false, false, false, false, false, false, false, false, false, false, false, false, false, false, false, false, false, false] rfl rfl (any_of HT_.out (by kernel_rfl)) (fun _ _ _ h => h) (Or.inl ⟨by rfl, ?_⟩) ?_ ?_
              rotate_left
              · intro w'
                go_simp
                with_reducible rfl
              rotate_left
              · simp only [Act.put, List.setIfInBounds_toArray, List.set_cons_zero, List.set_cons_succ, i64_w, i32_w]
                rfl
              refine pure_ (i := 16) (N := some 77) (v := ?_) (a' := ?_) #[true, true, true, true, true, true, true, true, true, true, true, true, true, true, true, true, true, false, false, false, false, false, false, false, false, false, false, false, false, false, false, false, false, false, false, false] rfl rfl (any_of HT_.out (by kernel_rfl)) (fun _ _ _ h => h) (Or.inl ⟨by rfl, ?_⟩) ?_ ?_
              rotate_left
              · intro w'
                go_simp
                with_reducible rfl
              rotate_left
              · simp only [Act.put, List.setIfInBounds_toArray, List.set_cons_zero, List.set_cons_succ, i64_w, i32_w]
                rfl
              refine pure_ (i := 17) (N := some 78) (v := ?_) (a' := ?_) #[true, true, true, true, true, true, true, true, true, true, true, true, true, true, true, true, true, true, false, false, false, false, false, false, false, false, false, false, false, false, false, false, false, false, false, false] rfl rfl (any_of HT_.out (by kernel_rfl)) (fun _ _ _ h => h) (Or.inl ⟨by rfl, ?_⟩) ?_ ?_
              rotate_left
              · intro w'
                go_simp
                with_reducible rfl
              rotate_left
              · simp only [Act.put, List.setIfInBounds_toArray, List.set_cons_zero, List.set_cons_succ, i64_w, i32_w]
                rfl
              refine one_ (i := 18) (N := some 79) #[true, true, true, true, true, true, true, true, true, true, true, true, true, true, true, true, true, true, true, false, false, false, false, false, false, false, false, false, false, false, false, false, false, false, false, false] rfl rfl (one_of HT_.out (by kernel_rfl)) (by decide) (fun K hK => ?_)
              refine goes_ Try.func21 (by kernel_rfl) rfl #[.slice Ao38 t265.length co38, .slice Ao39 t269.length co39] (by rfl) rfl rfl (by (try simp only [List.map_toArray, List.map_cons, List.map_nil]); first | done | rfl | (simp only [List.length_drop, List.length_take]; rfl)) ?_
              with_reducible refine (railplankeep_Same_int.calls k _ _ t265 _ _ t269 true _ ?side1 ?side2 ?side3 ?side4 A16.out).mono ?_
              (case side1 => repeat (first | exact (Kd.R_reads' HO267.out).2.2 | (with_reducible refine Kd.C_alloc ?_ _) | (with_reducible refine Kd.C_drewN ?_ _) | (with_reducible refine Kd.C_drew ?_)))
              (case side2 => exact (Kd.R_reads' HO267.out).2.1)
              (case side3 => repeat (first | exact (Kd.R_reads' HO271.out).2.2 | (with_reducible refine Kd.C_alloc ?_ _) | (with_reducible refine Kd.C_drewN ?_ _) | (with_reducible refine Kd.C_drew ?_)))
              (case side4 => exact (Kd.R_reads' HO271.out).2.1)
              rintro e w' ⟨rfl, ⟨nd, rfl⟩⟩
              refine ⟨_, rfl, ?_⟩
              refine hK.out _ _ ⟨(blk_cell BK256.out 0).trans rfl, (blk_cell BK256.out 1).trans rfl, (blk_cell BK256.out 2).trans rfl, (blk_cell BK256.out 3).trans rfl, (blk_cell BK256.out 4).trans rfl⟩ (fun hHeld => ?_)
              clear hK K
              refine norm_ (a' := ?_) ?_ ?_
              rotate_left
              · show Act.put _ (some 79) _ = _
                simp only [Act.put, List.setIfInBounds_toArray, List.set_cons_zero, List.set_cons_succ, i64_w, i32_w]
                rfl
              refine pure_ (i := 19) (N := some 80) (v := ?_) (a' := ?_) #[true, true, true, true, true, true, true, true, true, true, true, true, true, true, true, true, true, true, true, true, false, false, false, false, false, false, false, false, false, false, false, false, false, false, false, false] rfl rfl (any_of HT_.out (by kernel_rfl)) (fun _ _ _ h => h) (Or.inl ⟨by rfl, ?_⟩) ?_ ?_
              rotate_left
              · intro w'
                go_simp
                with_reducible rfl
              rotate_left
              · simp only [Act.put, List.setIfInBounds_toArray, List.set_cons_zero, List.set_cons_succ, i64_w, i32_w]
                rfl
              refine pure_ (i := 20) (N := some 81) (v := ?_) (a' := ?_) #[true, true, true, true, true, true, true, true, true, true, true, true, true, true, true, true, true, true, true, true, true, false, false, false, false, false, false, false, false, false, false, false, false, false, false, false] rfl rfl (any_of HT_.out (by kernel_rfl)) (fun _ _ _ h => h) (Or.inl ⟨by rfl, ?_⟩) ?_ ?_
              rotate_left
              · intro w'
                go_simp
                with_reducible rfl
              rotate_left
              · simp only [Act.put, List.setIfInBounds_toArray, List.set_cons_zero, List.set_cons_succ, i64_w, i32_w]
                rfl
              refine pure_ (i := 21) (N := some 82) (v := ?_) (a' := ?_) #[true, true, true, true, true, true, true, true, true, true, true, true, true, true, true, true, true, true, true, true, true, true, false, false, false, false, false, false, false, false, false, false, false, false, false, false] rfl rfl (any_of HT_.out (by kernel_rfl)) (fun _ _ _ h => h) (Or.inl ⟨by rfl, ?_⟩) ?_ ?_
              rotate_left
              · intro w'
                go_simp
                with_reducible rfl
              rotate_left
              · simp only [Act.put, List.setIfInBounds_toArray, List.set_cons_zero, List.set_cons_succ, i64_w, i32_w]
                rfl
              refine pure_ (i := 22) (N := some 83) (v := ?_) (a' := ?_) #[true, true, true, true, true, true, true, true, true, true, true, true, true, true, true, true, true, true, true, true, true, true, true, false, false, false, false, false, false, false, false, false, false, false, false, false] rfl rfl (any_of HT_.out (by kernel_rfl)) (fun _ _ _ h => h) (Or.inl ⟨by rfl, ?_⟩) ?_ ?_
              rotate_left
              · intro w'
                go_simp
                with_reducible rfl
              rotate_left
              · simp only [Act.put, List.setIfInBounds_toArray, List.set_cons_zero, List.set_cons_succ, i64_w, i32_w]
                rfl
              refine pure_ (i := 23) (N := some 84) (v := ?_) (a' := ?_) #[true, true, true, true, true, true, true, true, true, true, true, true, true, true, true, true, true, true, true, true, true, true, true, true, false, false, false, false, false, false, false, false, false, false, false, false] rfl rfl (any_of HT_.out (by kernel_rfl)) (fun _ _ _ h => h) (Or.inl ⟨by rfl, ?_⟩) ?_ ?_
              rotate_left
              · intro w'
                go_simp
                with_reducible rfl
              rotate_left
              · simp only [Act.put, List.setIfInBounds_toArray, List.set_cons_zero, List.set_cons_succ, i64_w, i32_w]
                rfl
              refine pure_ (i := 24) (N := some 85) (v := ?_) (a' := ?_) #[true, true, true, true, true, true, true, true, true, true, true, true, true, true, true, true, true, true, true, true, true, true, true, true, true, false, false, false, false, false, false, false, false, false, false, false] rfl rfl (any_of HT_.out (by kernel_rfl)) (fun _ _ _ h => h) (Or.inl ⟨by rfl, ?_⟩) ?_ ?_
              rotate_left
              · intro w'
                go_simp
                with_reducible rfl
              rotate_left
              · simp only [Act.put, List.setIfInBounds_toArray, List.set_cons_zero, List.set_cons_succ, i64_w, i32_w]
                rfl
              refine pure_ (i := 25) (N := some 86) (v := ?_) (a' := ?_) #[true, true, true, true, true, true, true, true, true, true, true, true, true, true, true, true, true, true, true, true, true, true, true, true, true, true, false, false, false, false, false, false, false, false, false, false] rfl rfl (any_of HT_.out (by kernel_rfl)) (fun _ _ _ h => h) (Or.inl ⟨by rfl, ?_⟩) ?_ ?_
              rotate_left
              · intro w'
                go_simp
                with_reducible rfl
              rotate_left
              · simp only [Act.put, List.setIfInBounds_toArray, List.set_cons_zero, List.set_cons_succ, i64_w, i32_w]
                rfl
              refine pure_ (i := 26) (N := some 87) (v := ?_) (a' := ?_) #[true, true, true, true, true, true, true, true, true, true, true, true, true, true, true, true, true, true, true, true, true, true, true, true, true, true, true, false, false, false, false, false, false, false, false, false] rfl rfl (any_of HT_.out (by kernel_rfl)) (fun _ _ _ h => h) (Or.inl ⟨by rfl, ?_⟩) ?_ ?_
              rotate_left
              · intro w'
                go_simp
                with_reducible rfl
              rotate_left
              · simp only [Act.put, List.setIfInBounds_toArray, List.set_cons_zero, List.set_cons_succ, i64_w, i32_w]
                rfl
              refine pure_ (i := 27) (N := some 88) (v := ?_) (a' := ?_) #[true, true, true, true, true, true, true, true, true, true, true, true, true, true, true, true, true, true, true, true, true, true, true, true, true, true, true, true, false, false, false, false, false, false, false, false] rfl rfl (any_of HT_.out (by kernel_rfl)) (fun _ _ _ h => h) (Or.inl ⟨by rfl, ?_⟩) ?_ ?_
              rotate_left
              · intro w'
                go_simp
                with_reducible rfl
              rotate_left
              · simp only [Act.put, List.setIfInBounds_toArray, List.set_cons_zero, List.set_cons_succ, i64_w, i32_w]
                rfl
              refine pure_ (i := 28) (N := some 89) (v := ?_) (a' := ?_) #[true, true, true, true, true, true, true, true, true, true, true, true, true, true, true, true, true, true, true, true, true, true, true, true, true, true, true, true, true, false, false, false, false, false, false, false] rfl rfl (any_of HT_.out (by kernel_rfl)) (fun _ _ _ h => h) (Or.inl ⟨by rfl, ?_⟩) ?_ ?_
              rotate_left
              · intro w'
                go_simp
                with_reducible rfl
              rotate_left
              · simp only [Act.put, List.setIfInBounds_toArray, List.set_cons_zero, List.set_cons_succ, i64_w, i32_w]
                rfl
              refine pure_ (i := 29) (N := some 90) (v := ?_) (a' := ?_) #[true, true, true, true, true, true, true, true, true, true, true, true, true, true, true, true, true, true, true, true, true, true, true, true, true, true, true, true, true, true, false, false, false, false, false, false] rfl rfl (any_of HT_.out (by kernel_rfl)) (fun _ _ _ h => h) (Or.inl ⟨by rfl, ?_⟩) ?_ ?_
              rotate_left
              · intro w'
                go_simp
                with_reducible rfl
              rotate_left
              · simp only [Act.put, List.setIfInBounds_toArray, List.set_cons_zero, List.set_cons_succ, i64_w, i32_w]
                rfl
              refine pure_ (i := 30) (N := some 91) (v := ?_) (a' := ?_) #[true, true, true, true, true, true, true, true, true, true, true, true, true, true, true, true, true, true, true, true, true, true, true, true, true, true, true, true, true, true, true, false, false, false, false, false] rfl rfl (any_of HT_.out (by kernel_rfl)) (fun _ _ _ h => h) (Or.inl ⟨by rfl, ?_⟩) ?_ ?_
              rotate_left
              · intro w'
                go_simp
                with_reducible rfl
              rotate_left
              · simp only [Act.put, List.setIfInBounds_toArray, List.set_cons_zero, List.set_cons_succ, i64_w, i32_w]
                rfl
              refine pure_ (i := 31) (N := some 92) (v := ?_) (a' := ?_) #[true, true, true, true, true, true, true, true, true, true, true, true, true, true, true, true, true, true, true, true, true, true, true, true, true, true, true, true, true, true, true, true, false, false, false, false] rfl rfl (any_of HT_.out (by kernel_rfl)) (fun _ _ _ h => h) (Or.inl ⟨by rfl, ?_⟩) ?_ ?_
              rotate_left
              · intro w'
                go_simp
                with_reducible rfl
              rotate_left
              · simp only [Act.put, List.setIfInBounds_toArray, List.set_cons_zero, List.set_cons_succ, i64_w, i32_w]
                rfl
              refine pure_ (i := 32) (N := some 93) (v := ?_) (a' := ?_) #[true, true, true, true, true, true, true, true, true, true, true, true, true, true, true, true, true, true, true, true, true, true, true, true, true, true, true, true, true, true, true, true, true, false, false, false] rfl rfl (any_of HT_.out (by kernel_rfl)) (fun _ _ _ h => h) (Or.inl ⟨by rfl, ?_⟩) ?_ ?_
              rotate_left
              · intro w'
                go_simp
                with_reducible rfl
              rotate_left
              · simp only [Act.put, List.setIfInBounds_toArray, List.set_cons_zero, List.set_cons_succ, i64_w, i32_w]
                rfl
              refine pure_ (i := 33) (N := some 94) (v := ?_) (a' := ?_) #[true, true, true, true, true, true, true, true, true, true, true, true, true, true, true, true, true, true, true, true, true, true, true, true, true, true, true, true, true, true, true, true, true, true, false, false] rfl rfl (any_of HT_.out (by kernel_rfl)) (fun _ _ _ h => h) (Or.inl ⟨by rfl, ?_⟩) ?_ ?_
              rotate_left
              · intro w'
                go_simp
                with_reducible rfl
              rotate_left
              · simp only [Act.put, List.setIfInBounds_toArray, List.set_cons_zero, List.set_cons_succ, i64_w, i32_w]
                rfl
              refine pure_ (i := 34) (N := some 95) (v := ?_) (a' := ?_) #[true, true, true, true, true, true, true, true, true, true, true, true, true, true, true, true, true, true, true, true, true, true, true, true, true, true, true, true, true, true, true, true, true, true, true, false] rfl rfl (any_of HT_.out (by kernel_rfl)) (fun _ _ _ h => h) (Or.inl ⟨by rfl, ?_⟩) ?_ ?_
              rotate_left
              · intro w'
                go_simp
                with_reducible rfl
              rotate_left
              · simp only [Act.put, List.setIfInBounds_toArray, List.set_cons_zero, List.set_cons_succ, i64_w, i32_w]
                rfl
              refine pure_ (i := 35) (N := some 6) (v := ?_) (a' := ?_) #[true, true, true, true, true, true, true, true, true, true, true, true, true, true, true, true, true, true, true, true, true, true, true, true, true, true, true, true, true, true, true, true, true, true, true, true] rfl rfl (any_of HT_.out (by kernel_rfl)) (fun _ _ _ h => h) (Or.inl ⟨by rfl, ?_⟩) ?_ ?_
              rotate_left
              · intro w'
                go_simp
                with_reducible rfl
              rotate_left
              · simp only [Act.put, List.setIfInBounds_toArray, List.set_cons_zero, List.set_cons_succ, i64_w, i32_w]
                rfl
              refine done_ (done_of HT_.out (by kernel_rfl)) ?_
              try go_wp2
              go_ret
              exact ⟨by first | rfl | (simp [errW_none, errW_some] <;> rfl) | (simp [*, errW_none, errW_some] <;> rfl), by repeat (first | (with_reducible first | exact HB.out | apply below_alloc | apply pw_below_drewN | apply below_drew1 | refine below_set ?_ GE256.out) | exact HB.out)⟩
            · rw [if_neg c19] at H
              have c19b0 : (t273 == t275) = false := beq_eq_false_iff_ne.mpr c19
              have c19b1 : (t273 != t275) = true := bne_iff_ne.mpr c19
              exact absurd (Option.some.inj H) (by rw [hT.out]; decide)
          · rw [if_neg c18] at H
            have c18b0 : (t268 == t272) = false := beq_eq_false_iff_ne.mpr c18
            have c18b1 : (t268 != t272) = true := bne_iff_ne.mpr c18
            exact absurd (Option.some.inj H) (by rw [hT.out]; decide)
        · replace c17 := Bool.eq_false_iff.mpr c17
          subst c17
          have H1 : (some false) = some r := by rw [if_neg (show ¬ (false = true) by decide)] at H; exact H
          clear H
          have H := H1
          clear H1
          exact absurd (Option.some.inj H) (by rw [hT.out]; decide)
      · rw [if_neg c15] at H
        have c15b0 : (t260 == t264) = false := beq_eq_false_iff_ne.mpr c15
        have c15b1 : (t260 != t264) = true := bne_iff_ne.mpr c15
        exact absurd (Option.some.inj H) (by rw [hT.out]; decide)
    · replace c14 := Bool.eq_false_iff.mpr c14
      subst c14
      have H1 : (some false) = some r := by rw [if_neg (show ¬ (false = true) by decide)] at H; exact H
      clear H
      have H := H1
      clear H1
      exact absurd (Option.some.inj H) (by rw [hT.out]; decide)
  · rw [if_neg c12] at H
    have c12b0 : (t277 == t278) = false := by simpa using c12
    (try (have c12b1 : decide (t277 = t278) = false := by simpa using c12))
    (try (have c12b2 : (t277 == t278) = false := by simpa using c12))
    (try (have c12b3 : ¬ (t277 = t278) := by simpa using c12))
    clear c12
    exact absurd (Option.some.inj H) (by rw [hT.out]; decide)

/-! ### railplanlaw6_DynamicsGenerated: function 10 -/
def railplanlaw6_DynamicsGenerated.f (k : Nat) (l0 : List Int) (l1 : List Int) (a2 : Int) : Option (Bool) := (railplankeep_Cells.f k l0).bind fun t281 => ((railplankeep_Stock.f l1).bind fun bt284 => ((railplankeep_Pick.f a2 (wrap64 ((t281.length : Int) + 2))).bind fun t290 => ((railplanlaw6_agrees.f k t281 (wrap64 (t290 - 1)) bt284.1 bt284.2.1 bt284.2.2.1 bt284.2.2.2.1 bt284.2.2.2.2).bind fun t291 => (if t291 = true then ((dynamics_Check.f bt284.1 bt284.2.1 bt284.2.2.1 bt284.2.2.2.1 bt284.2.2.2.2).bind fun t292 => (some t292)) else (some false)))))
theorem railplanlaw6_DynamicsGenerated.mono : ∀ a0 a1 a2 k, LeO (railplanlaw6_DynamicsGenerated.f k a0 a1 a2) (railplanlaw6_DynamicsGenerated.f (k + 1) a0 a1 a2) := by
  intro a0 a1 a2 k
  unfold railplanlaw6_DynamicsGenerated.f
  repeat' first
      | (with_reducible exact railplankeep_Cells.mono _ _)
      | (with_reducible exact railplanlaw6_agrees.mono _ _ _ _ _ _ _ _)
      | (with_reducible exact LeO.refl _)
      | (with_reducible exact LeO.none _)
      | (with_reducible refine LeO.ite ?_ ?_)
      | (with_reducible refine LeO.bind ?_ (fun _ => ?_))
      | exact railplankeep_Cells.mono _ _
      | exact railplanlaw6_agrees.mono _ _ _ _ _ _ _ _
      | exact LeO.none _
      | refine LeO.ite ?_ ?_
      | refine LeO.bind ?_ (fun _ => ?_)
def railplanlaw6_DynamicsGenerated.T2 : Bool × List (List Nat × List Nat) := (true, [([], []), ([], []), ([], []), ([2], [2]), ([3], [3]), ([1, 4], [1, 4]), ([5], [5]), ([], []), ([0, 6, 7, 5], [0, 6, 7]), ([8, 8], [8]), ([9], [9]), ([10, 9, 9], [9, 10]), ([9, 11], [9, 11]), ([12, 11, 0, 1, 2, 3, 4, 5, 6, 7, 8, 9, 10, 11, 12], [12])])
def railplanlaw6_DynamicsGenerated.B2 : List Nat := [0, 0, 0, 4, 12, 30, 62, 0, 255, 511, 1023, 2047, 4095, 8191]
theorem railplanlaw6_DynamicsGenerated.tab2 : rtab .any (opsOf Try.f10 2) = railplanlaw6_DynamicsGenerated.T2 := by kernel_rfl
theorem railplanlaw6_DynamicsGenerated.bits2 : waitsOk railplanlaw6_DynamicsGenerated.T2.2 railplanlaw6_DynamicsGenerated.B2 = true := by kernel_rfl
set_option maxHeartbeats 8000000 in
set_option maxRecDepth 100000 in
theorem railplanlaw6_DynamicsGenerated.calls (k : Nat) (A0 : Option Addr) (c0 : Nat) (l0 : List Int) (A1 : Option Addr) (c1 : Nat) (l1 : List Int) (a2 : Int) (r : Bool) (w : World) (hr0 : Kd.C (Kd.int .i64) w A0 l0.length l0) (hc0 : l0.length ≤ c0) (hr1 : Kd.C (Kd.int .i64) w A1 l1.length l1) (hc1 : l1.length ≤ c1) (h : railplanlaw6_DynamicsGenerated.f k l0 l1 a2 = some r) (hT : Aside0 (r = true)) :
    Calls Try.prog 10 #[.slice A0 l0.length c0, .slice A1 l1.length c1, .int .i64 a2] w fun e w' => e = .returned (.bool r) ∧ Below w.heap.size w w' := by
  have hu26 := Try.underlying26
  have HR0 := Aside0.mk hr0
  have HC0 := Aside0.mk hc0
  clear hr0 hc0
  have HR1 := Aside0.mk hr1
  have HC1 := Aside0.mk hc1
  clear hr1 hc1
  have HB := Aside0.mk (Below.refl w.heap.size w)
  have H : ((railplankeep_Cells.f k l0).bind fun t281 => ((railplankeep_Stock.f l1).bind fun bt284 => ((railplankeep_Pick.f a2 (wrap64 ((t281.length : Int) + 2))).bind fun t290 => ((railplanlaw6_agrees.f k t281 (wrap64 (t290 - 1)) bt284.1 bt284.2.1 bt284.2.2.1 bt284.2.2.2.1 bt284.2.2.2.2).bind fun t291 => (if t291 = true then ((dynamics_Check.f bt284.1 bt284.2.1 bt284.2.2.1 bt284.2.2.2.1 bt284.2.2.2.2).bind fun t292 => (some t292)) else (some false)))))) = some r := h
  clear h
  replace H := Option.bind_eq_some_iff.mp H
  obtain ⟨t281, A40, H⟩ := H
  replace H : ((railplankeep_Stock.f l1).bind fun bt284 => ((railplankeep_Pick.f a2 (wrap64 ((t281.length : Int) + 2))).bind fun t290 => ((railplanlaw6_agrees.f k t281 (wrap64 (t290 - 1)) bt284.1 bt284.2.1 bt284.2.2.1 bt284.2.2.2.1 bt284.2.2.2.2).bind fun t291 => (if t291 = true then ((dynamics_Check.f bt284.1 bt284.2.1 bt284.2.2.1 bt284.2.2.2.1 bt284.2.2.2.2).bind fun t292 => (some t292)) else (some false))))) = some r := H
  have A4 := Aside0.mk A40
  clear A40
  replace H := Option.bind_eq_some_iff.mp H
  obtain ⟨⟨t284, t285, t286, t287, t288⟩, A50, H⟩ := H
  replace H : ((railplankeep_Pick.f a2 (wrap64 ((t281.length : Int) + 2))).bind fun t290 => ((railplanlaw6_agrees.f k t281 (wrap64 (t290 - 1)) t284 t285 t286 t287 t288).bind fun t291 => (if t291 = true then ((dynamics_Check.f t284 t285 t286 t287 t288).bind fun t292 => (some t292)) else (some false)))) = some r := H
  have A5 := Aside0.mk A50
  clear A50
  replace H := Option.bind_eq_some_iff.mp H
  obtain ⟨t290, A60, H⟩ := H
  replace H : ((railplanlaw6_agrees.f k t281 (wrap64 (t290 - 1)) t284 t285 t286 t287 t288).bind fun t291 => (if t291 = true then ((dynamics_Check.f t284 t285 t286 t287 t288).bind fun t292 => (some t292)) else (some false))) = some r := H
  have A6 := Aside0.mk A60
  clear A60
  replace H := Option.bind_eq_some_iff.mp H
  obtain ⟨t291, A70, H⟩ := H
  replace H : (if t291 = true then ((dynamics_Check.f t284 t285 t286 t287 t288).bind fun t292 => (some t292)) else (some false)) = some r := H
  have A7 := Aside0.mk A70
  clear A70
  by_cases c8 : t291 = true
  · subst c8
    have H1 : ((dynamics_Check.f t284 t285 t286 t287 t288).bind fun t292 => (some t292)) = some r := by rw [if_pos rfl] at H; exact H
    clear H
    have H := H1
    clear H1
    replace H := Option.bind_eq_some_iff.mp H
    obtain ⟨t292, A90, H⟩ := H
    replace H : (some t292) = some r := H
    have A9 := Aside0.mk A90
    clear A90
    obtain rfl := Option.some.inj H
    go_enter Try.func10, Try.ntmps10
    try go_wp2_with (first | ((with_reducible refine gate_callee (f := 13) rfl ?_); refine goesL_ (some 10) rfl rfl Try.func13 (by kernel_rfl) rfl #[.slice A0 l0.length c0] rfl (by (try simp only [List.map_toArray, List.map_cons, List.map_nil]); first | done | rfl | (simp only [List.length_drop, List.length_take]; rfl)) ?_; (with_reducible refine (railplankeep_Cells.calls k _ _ l0 t281 _ ?side1 ?side2 A4.out).mono ?_); (case side1 => repeat (first | exact HR0.out | (with_reducible refine Kd.C_alloc ?_ _) | (with_reducible refine Kd.C_drewN ?_ _) | (with_reducible refine Kd.C_drew ?_))); (case side2 => exact HC0.out); rintro e w10 ⟨v282, rfl, ho0, hb⟩; refine ⟨_, rfl, ?_⟩; have n0_ := Aside0.mk (Kd.R_lower ho0 (below_size (by repeat (first | (with_reducible first | exact HB.out | apply below_alloc | apply pw_below_drewN | apply below_drew1) | exact HB.out)))); have n1_ := Aside0.mk (below_step (by repeat (first | (with_reducible first | exact HB.out | apply below_alloc | apply pw_below_drewN | apply below_drew1) | exact HB.out)) hb); clear HB; have HO283 := n0_; have HB := n1_; clear n0_ n1_; (try clear hb); (try clear hb2); (try clear hk); (try clear hi); (try clear ho0)) | ((with_reducible refine gate_callee (f := 14) rfl ?_); refine goesL_ (some 12) rfl rfl Try.func14 (by kernel_rfl) rfl #[.slice A1 l1.length c1] rfl (by (try simp only [List.map_toArray, List.map_cons, List.map_nil]); first | done | rfl | (simp only [List.length_drop, List.length_take]; rfl)) ?_; (with_reducible refine (railplankeep_Stock.calls _ _ l1 t284 t285 t286 t287 t288 _ ?side1 ?side2 A5.out).mono ?_); (case side1 => repeat (first | exact (Kd.C_below HR1.out HB.out) | (with_reducible refine Kd.C_alloc ?_ _) | (with_reducible refine Kd.C_drewN ?_ _) | (with_reducible refine Kd.C_drew ?_))); (case side2 => exact HC1.out); rintro e w11 ⟨rfl, hb⟩; refine ⟨_, rfl, ?_⟩; have n0_ := Aside0.mk (Kd.R_below (by (with_reducible repeat (first | apply Kd.R_alloc | apply Kd.R_drewN | apply Kd.R_drew)); exact HO283.out) hb); have n1_ := Aside0.mk (below_step (by repeat (first | (with_reducible first | exact HB.out | apply below_alloc | apply pw_below_drewN | apply below_drew1) | exact HB.out)) hb); clear HO283; clear HB; have HO283 := n0_; have HB := n1_; clear n0_ n1_; (try clear hb); (try clear hb2); (try clear hk); (try clear hi)) | ((with_reducible refine gate_dst (N := 8) rfl ?_); refine box_event ?hg (N := 8) ?hd (cs := #[.string (⟨#[]⟩ : ByteArray), .int .i64 0, .int .i64 0, .int .i64 0, .int .i64 0]) (t := 26) ?hr ?_; (case hd => rfl); (case hg => rfl); (case hr => first | (go_simp; done) | (go_simp; rfl)); intro gb289 hg w12 hbox hb; have n0_ := Aside0.mk (Kd.R_below (by (with_reducible repeat (first | apply Kd.R_alloc | apply Kd.R_drewN | apply Kd.R_drew)); exact HO283.out) hb); have n1_ := Aside0.mk (below_step (by repeat (first | (with_reducible first | exact HB.out | apply below_alloc | apply pw_below_drewN | apply below_drew1) | exact HB.out)) hb); have n2_ := Aside0.mk (hbox); have n3_ := Aside0.mk ((by rw [hg]; exact (below_size (by repeat (first | (with_reducible first | exact HB.out | apply below_alloc | apply pw_below_drewN | apply below_drew1) | exact HB.out))) : w.heap.size ≤ gb289)); have n4_ := Aside0.mk ((by rw [hg]; exact (below_size (by repeat (first | (with_reducible first | exact HB.out | apply below_alloc | apply pw_below_drewN | apply below_drew1) | exact HB.out))) : w.heap.size ≤ gb289)); clear HO283; clear HB; have HO283 := n0_; have HB := n1_; have BK289 := n2_; have GW289 := n3_; have GE289 := n4_; clear n0_ n1_ n2_ n3_ n4_; clear hb hbox hg; have hcz13_0 : w12.cell? ⟨gb289, 0, none⟩ = some (.string (⟨#[]⟩ : ByteArray)) := (blk_cell BK289.out 0).trans rfl; have hcz13_1 : w12.cell? ⟨gb289, 1, none⟩ = some (.int .i64 0) := (blk_cell BK289.out 1).trans rfl; have hcz13_2 : w12.cell? ⟨gb289, 2, none⟩ = some (.int .i64 0) := (blk_cell BK289.out 2).trans rfl; have hcz13_3 : w12.cell? ⟨gb289, 3, none⟩ = some (.int .i64 0) := (blk_cell BK289.out 3).trans rfl; have hcz13_4 : w12.cell? ⟨gb289, 4, none⟩ = some (.int .i64 0) := (blk_cell BK289.out 4).trans rfl; have hfz13_0 := blk_frozen BK289.out 0; have hfz13_1 := blk_frozen BK289.out 1; have hfz13_2 := blk_frozen BK289.out 2; have hfz13_3 := blk_frozen BK289.out 3; have hfz13_4 := blk_frozen BK289.out 4))
    have n0_ : Aside0 (Kd.R k34 34 (((((w12.setCell ⟨gb289, 0, none⟩ (.string t284)).setCell ⟨gb289, 1, none⟩ (.int .i64 t285)).setCell ⟨gb289, 2, none⟩ (.int .i64 t286)).setCell ⟨gb289, 3, none⟩ (.int .i64 t287)).setCell ⟨gb289, 4, none⟩ (.int .i64 t288)) w.heap.size (fun _ => True) v282 t281) := ⟨by (with_reducible repeat (first | apply Kd.R_alloc | apply Kd.R_drewN | apply Kd.R_drew)); exact Kd.R_mono (Kd.R_far (p := ⟨gb289, 4, none⟩) (Kd.R_far (p := ⟨gb289, 3, none⟩) (Kd.R_far (p := ⟨gb289, 2, none⟩) (Kd.R_far (p := ⟨gb289, 1, none⟩) (Kd.R_far (p := ⟨gb289, 0, none⟩) (Kd.R_types HO283.out BK289.out (by decide)) (fun _ hk => hk.2) (.string t284)) (fun _ hk => hk.2) (.int .i64 t285)) (fun _ hk => hk.2) (.int .i64 t286)) (fun _ hk => hk.2) (.int .i64 t287)) (fun _ hk => hk.2) (.int .i64 t288)) (fun _ hk => trivial)⟩
    have n1_ : Aside0 ((((((w12.setCell ⟨gb289, 0, none⟩ (.string t284)).setCell ⟨gb289, 1, none⟩ (.int .i64 t285)).setCell ⟨gb289, 2, none⟩ (.int .i64 t286)).setCell ⟨gb289, 3, none⟩ (.int .i64 t287)).setCell ⟨gb289, 4, none⟩ (.int .i64 t288)).heap[gb289]? = some (.cells #[.string t284, .int .i64 t285, .int .i64 t286, .int .i64 t287, .int .i64 t288] 26 (0, 0))) := ⟨by (with_reducible repeat (first | refine blk_drewN ?_ _ | refine blk_drew ?_ | refine blk_alloc ?_ _)); refine blk_put (cs := #[.string t284, .int .i64 t285, .int .i64 t286, .int .i64 t287, .int .i64 0]) ?_ 4 _ rfl; (with_reducible repeat (first | refine blk_drewN ?_ _ | refine blk_drew ?_ | refine blk_alloc ?_ _)); refine blk_put (cs := #[.string t284, .int .i64 t285, .int .i64 t286, .int .i64 0, .int .i64 0]) ?_ 3 _ rfl; (with_reducible repeat (first | refine blk_drewN ?_ _ | refine blk_drew ?_ | refine blk_alloc ?_ _)); refine blk_put (cs := #[.string t284, .int .i64 t285, .int .i64 0, .int .i64 0, .int .i64 0]) ?_ 2 _ rfl; (with_reducible repeat (first | refine blk_drewN ?_ _ | refine blk_drew ?_ | refine blk_alloc ?_ _)); refine blk_put (cs := #[.string t284, .int .i64 0, .int .i64 0, .int .i64 0, .int .i64 0]) ?_ 1 _ rfl; (with_reducible repeat (first | refine blk_drewN ?_ _ | refine blk_drew ?_ | refine blk_alloc ?_ _)); refine blk_put (cs := #[.string (⟨#[]⟩ : ByteArray), .int .i64 0, .int .i64 0, .int .i64 0, .int .i64 0]) ?_ 0 _ rfl; (with_reducible repeat (first | refine blk_drewN ?_ _ | refine blk_drew ?_ | refine blk_alloc ?_ _)); exact BK289.out⟩
    have n2_ : Aside0 (Below w.heap.size w (((((w12.setCell ⟨gb289, 0, none⟩ (.string t284)).setCell ⟨gb289, 1, none⟩ (.int .i64 t285)).setCell ⟨gb289, 2, none⟩ (.int .i64 t286)).setCell ⟨gb289, 3, none⟩ (.int .i64 t287)).setCell ⟨gb289, 4, none⟩ (.int .i64 t288))) := ⟨by repeat (first | (with_reducible first | exact HB.out | apply below_alloc | apply pw_below_drewN | apply below_drew1 | refine below_set ?_ GE289.out) | exact HB.out)⟩
    (try clear HO283)
    (try clear BK289)
    (try clear HB)
    generalize (((((w12.setCell ⟨gb289, 0, none⟩ (.string t284)).setCell ⟨gb289, 1, none⟩ (.int .i64 t285)).setCell ⟨gb289, 2, none⟩ (.int .i64 t286)).setCell ⟨gb289, 3, none⟩ (.int .i64 t287)).setCell ⟨gb289, 4, none⟩ (.int .i64 t288)) = w14 at n0_ n1_ n2_ ⊢
    have HO283 := n0_
    have BK289 := n1_
    have HB := n2_
    clear n0_ n1_ n2_
    have n0_ := Aside0.mk (Kd.R_drew HO283.out)
    have n1_ := Aside0.mk (blk_drew BK289.out)
    have n2_ := Aside0.mk (below_drew1 HB.out)
    clear HO283
    clear BK289
    clear HB
    have HO283 := n0_
    have BK289 := n1_
    have HB := n2_
    clear n0_ n1_ n2_
    obtain ⟨Ao16, co16, eo16⟩ := Kd.R_slice HO283.out
    (first | subst eo16 | (injection eo16 with f1_ f2_ f3_; have f4_ := f1_.symm; have f5_ := f3_.symm; clear f1_ f2_ f3_; subst f4_; subst f5_))
    refine start_ (n := 14) (S := fun w' => w'.cell? ⟨gb289, 0, none⟩ = some (.string t284) ∧ w'.cell? ⟨gb289, 1, none⟩ = some (.int .i64 t285) ∧ w'.cell? ⟨gb289, 2, none⟩ = some (.int .i64 t286) ∧ w'.cell? ⟨gb289, 3, none⟩ = some (.int .i64 t287) ∧ w'.cell? ⟨gb289, 4, none⟩ = some (.int .i64 t288)) (ds := []) #[false, false, false, false, false, false, false, false, false, false, false, false, false, false] (by kernel_rfl) rfl rfl ⟨(blk_cell BK289.out 0).trans rfl, (blk_cell BK289.out 1).trans rfl, (blk_cell BK289.out 2).trans rfl, (blk_cell BK289.out 3).trans rfl, (blk_cell BK289.out 4).trans rfl⟩ (fun hHeld => ?_); refine with_tabW railplanlaw6_DynamicsGenerated.tab2 railplanlaw6_DynamicsGenerated.bits2 (fun HT_ HW_ => ?_)
    generalize w14.drew = w15 at HO283 BK289 HB hHeld ⊢
    refine pure_ (i := 0) (N := some 13) (v := ?_) (a' := ?_) #[true, false, false, false, false, false, false, false, false, false, false, false, false, false] rfl rfl (any_of HT_.out (by kernel_rfl)) (fun _ _ _ h => h) (Or.inl ⟨by rfl, ?_⟩) ?_ ?_
    rotate_left
    · intro w'
      go_simp
      with_reducible rfl
    rotate_left
    · simp only [Act.put, List.setIfInBounds_toArray, List.set_cons_zero, List.set_cons_succ, i64_w, i32_w]
      rfl
    refine pure_ (i := 1) (N := some 14) (v := ?_) (a' := ?_) #[true, true, false, false, false, false, false, false, false, false, false, false, false, false] rfl rfl (any_of HT_.out (by kernel_rfl)) (fun _ _ _ h => h) (Or.inl ⟨by rfl, ?_⟩) ?_ ?_
    rotate_left
    · intro w'
      go_simp
      with_reducible rfl
    rotate_left
    · simp only [Act.put, List.setIfInBounds_toArray, List.set_cons_zero, List.set_cons_succ, i64_w, i32_w]
      rfl
    refine pure_ (i := 2) (N := some 15) (v := ?_) (a' := ?_) #[true, true, true, false, false, false, false, false, false, false, false, false, false, false] rfl rfl (any_of HT_.out (by kernel_rfl)) (fun _ _ _ h => h) (Or.inl ⟨by rfl, ?_⟩) ?_ ?_
    rotate_left
    · intro w'
      go_simp
      with_reducible rfl
    rotate_left
    · simp only [Act.put, List.setIfInBounds_toArray, List.set_cons_zero, List.set_cons_succ, i64_w, i32_w]
      rfl
    refine pure_ (i := 3) (N := some 16) (v := ?_) (a' := ?_) #[true, true, true, true, false, false, false, false, false, false, false, false, false, false] rfl rfl (any_of HT_.out (by kernel_rfl)) (fun _ _ _ h => h) (Or.inl ⟨by rfl, ?_⟩) ?_ ?_
    rotate_left
    · intro w'
      go_simp
      with_reducible rfl
    rotate_left
    · simp only [Act.put, List.setIfInBounds_toArray, List.set_cons_zero, List.set_cons_succ, i64_w, i32_w]
      rfl
    refine pure_ (i := 4) (N := some 17) (v := ?_) (a' := ?_) #[true, true, true, true, true, false, false, false, false, false, false, false, false, false] rfl rfl (any_of HT_.out (by kernel_rfl)) (fun _ _ _ h => h) (Or.inl ⟨by rfl, ?_⟩) ?_ ?_
    rotate_left
    · intro w'
      go_simp
      with_reducible rfl
    rotate_left
    · simp only [Act.put, List.setIfInBounds_toArray, List.set_cons_zero, List.set_cons_succ, i64_w, i32_w]
      rfl
    refine take_ (i := 7) (N := some 20) (v := ?_) (a' := ?_) #[true, true, true, true, true, false, false, true, false, false, false, false, false, false] rfl rfl (take_ofW HT_.out HW_.out (by kernel_rfl)) (fun _ _ _ h => h) (Or.inl ⟨by rfl, ?_⟩) hHeld ?_ ?_
    rotate_left
    · rintro w' ⟨s0, s1, s2, s3, s4⟩
      go_simp
      with_reducible rfl
    rotate_left
    · simp only [Act.put, List.setIfInBounds_toArray, List.set_cons_zero, List.set_cons_succ, i64_w, i32_w]
      rfl
    refine one_ (i := 5) (N := some 18) #[true, true, true, true, true, true, false, true, false, false, false, false, false, false] rfl rfl (one_of HT_.out (by kernel_rfl)) (by decide) (fun K hK => ?_)
    refine goes_ Try.func16 (by kernel_rfl) rfl #[.int .i64 a2, .int .i64 (wrap64 ((t281.length : Int) + 2))] (by rfl) rfl rfl (by (try simp only [List.map_toArray, List.map_cons, List.map_nil]); first | done | rfl | (simp only [List.length_drop, List.length_take]; rfl)) ?_
    with_reducible refine (railplankeep_Pick.calls a2 (wrap64 ((t281.length : Int) + 2)) t290 _ A6.out).mono ?_
    rintro e w' ⟨rfl, ⟨nd, rfl⟩⟩
    refine ⟨_, rfl, ?_⟩
    refine hK.out _ _ ⟨(blk_cell BK289.out 0).trans rfl, (blk_cell BK289.out 1).trans rfl, (blk_cell BK289.out 2).trans rfl, (blk_cell BK289.out 3).trans rfl, (blk_cell BK289.out 4).trans rfl⟩ (fun hHeld => ?_)
    clear hK K
    refine norm_ (a' := ?_) ?_ ?_
    rotate_left
    · show Act.put _ (some 18) _ = _
      simp only [Act.put, List.setIfInBounds_toArray, List.set_cons_zero, List.set_cons_succ, i64_w, i32_w]
      rfl
    refine pure_ (i := 6) (N := some 19) (v := ?_) (a' := ?_) #[true, true, true, true, true, true, true, true, false, false, false, false, false, false] rfl rfl (any_of HT_.out (by kernel_rfl)) (fun _ _ _ h => h) (Or.inl ⟨by rfl, ?_⟩) ?_ ?_
    rotate_left
    · intro w'
      go_simp
      with_reducible rfl
    rotate_left
    · simp only [Act.put, List.setIfInBounds_toArray, List.set_cons_zero, List.set_cons_succ, i64_w, i32_w]
      rfl
    refine one_ (i := 8) (N := some 21) #[true, true, true, true, true, true, true, true, true, false, false, false, false, false] rfl rfl (one_of HT_.out (by kernel_rfl)) (by decide) (fun K hK => ?_)
    refine goes_ Try.func22 (by kernel_rfl) rfl #[.slice Ao16 t281.length co16, .int .i64 (wrap64 (t290 - 1)), .agg #[.string t284, .int .i64 t285, .int .i64 t286, .int .i64 t287, .int .i64 t288]] (by rfl) rfl rfl (by (try simp only [List.map_toArray, List.map_cons, List.map_nil]); first | done | rfl | (simp only [List.length_drop, List.length_take]; rfl)) ?_
    with_reducible refine (railplanlaw6_agrees.calls k _ _ t281 (wrap64 (t290 - 1)) t284 t285 t286 t287 t288 true _ ?side1 ?side2 A7.out ⟨by first | rfl | assumption⟩).mono ?_
    (case side1 => repeat (first | exact (Kd.R_reads' HO283.out).2.2 | (with_reducible refine Kd.C_alloc ?_ _) | (with_reducible refine Kd.C_drewN ?_ _) | (with_reducible refine Kd.C_drew ?_)))
    (case side2 => exact (Kd.R_reads' HO283.out).2.1)
    rintro e w17 ⟨rfl, hb⟩
    refine ⟨_, rfl, ?_⟩
    have n0_ := Aside0.mk (Kd.R_below (by (with_reducible repeat (first | apply Kd.R_alloc | apply Kd.R_drewN | apply Kd.R_drew)); exact HO283.out) hb)
    have n1_ := Aside0.mk (blk_below (g := gb289) (o := .cells #[.string t284, .int .i64 t285, .int .i64 t286, .int .i64 t287, .int .i64 t288] 26 (0, 0)) (by (with_reducible repeat (first | refine blk_drewN ?_ _ | refine blk_drew ?_ | refine blk_alloc ?_ _)); exact BK289.out) hb)
    have n2_ := Aside0.mk (below_step (by repeat (first | (with_reducible first | exact HB.out | apply below_alloc | apply pw_below_drewN | apply below_drew1 | refine below_set ?_ GE289.out) | exact HB.out)) hb)
    clear HO283
    clear BK289
    clear HB
    have HO283 := n0_
    have BK289 := n1_
    have HB := n2_
    clear n0_ n1_ n2_
    (try clear hb)
    (try clear hb2)
    (try clear hk)
    (try clear hi)
    refine hK.out _ _ ⟨(blk_cell BK289.out 0).trans rfl, (blk_cell BK289.out 1).trans rfl, (blk_cell BK289.out 2).trans rfl, (blk_cell BK289.out 3).trans rfl, (blk_cell BK289.out 4).trans rfl⟩ (fun hHeld => ?_)
    clear hK K
    refine norm_ (a' := ?_) ?_ ?_
    rotate_left
    · show Act.put _ (some 21) _ = _
      simp only [Act.put, List.setIfInBounds_toArray, List.set_cons_zero, List.set_cons_succ, i64_w, i32_w]
      rfl
    refine pure_ (i := 9) (N := some 22) (v := ?_) (a' := ?_) #[true, true, true, true, true, true, true, true, true, true, false, false, false, false] rfl rfl (any_of HT_.out (by kernel_rfl)) (fun _ _ _ h => h) (Or.inl ⟨by rfl, ?_⟩) ?_ ?_
    rotate_left
    · intro w'
      go_simp
      with_reducible rfl
    rotate_left
    · simp only [Act.put, List.setIfInBounds_toArray, List.set_cons_zero, List.set_cons_succ, i64_w, i32_w]
      rfl
    refine take_ (i := 10) (N := some 23) (v := ?_) (a' := ?_) #[true, true, true, true, true, true, true, true, true, true, true, false, false, false] rfl rfl (take_ofW HT_.out HW_.out (by kernel_rfl)) (fun _ _ _ h => h) (Or.inl ⟨by rfl, ?_⟩) hHeld ?_ ?_
    rotate_left
    · rintro w' ⟨s0, s1, s2, s3, s4⟩
      go_simp
      with_reducible rfl
    rotate_left
    · simp only [Act.put, List.setIfInBounds_toArray, List.set_cons_zero, List.set_cons_succ, i64_w, i32_w]
      rfl
    refine one_ (i := 11) (N := some 24) #[true, true, true, true, true, true, true, true, true, true, true, true, false, false] rfl rfl (one_of HT_.out (by kernel_rfl)) (by decide) (fun K hK => ?_)
    refine goes_ Try.func15 (by kernel_rfl) rfl #[.agg #[.string t284, .int .i64 t285, .int .i64 t286, .int .i64 t287, .int .i64 t288]] (by rfl) rfl rfl (by (try simp only [List.map_toArray, List.map_cons, List.map_nil]); first | done | rfl | (simp only [List.length_drop, List.length_take]; rfl)) ?_
    with_reducible refine (dynamics_Check.calls t284 t285 t286 t287 t288 t292 _ A9.out).mono ?_
    rintro e w18 ⟨rfl, hb⟩
    refine ⟨_, rfl, ?_⟩
    have n0_ := Aside0.mk (Kd.R_below (by (with_reducible repeat (first | apply Kd.R_alloc | apply Kd.R_drewN | apply Kd.R_drew)); exact HO283.out) hb)
    have n1_ := Aside0.mk (blk_below (g := gb289) (o := .cells #[.string t284, .int .i64 t285, .int .i64 t286, .int .i64 t287, .int .i64 t288] 26 (0, 0)) (by (with_reducible repeat (first | refine blk_drewN ?_ _ | refine blk_drew ?_ | refine blk_alloc ?_ _)); exact BK289.out) hb)
    have n2_ := Aside0.mk (below_step (by repeat (first | (with_reducible first | exact HB.out | apply below_alloc | apply pw_below_drewN | apply below_drew1 | refine below_set ?_ GE289.out) | exact HB.out)) hb)
    clear HO283
    clear BK289
    clear HB
    have HO283 := n0_
    have BK289 := n1_
    have HB := n2_
    clear n0_ n1_ n2_
    (try clear hb)
    (try clear hb2)
    (try clear hk)
    (try clear hi)
    refine hK.out _ _ ⟨(blk_cell BK289.out 0).trans rfl, (blk_cell BK289.out 1).trans rfl, (blk_cell BK289.out 2).trans rfl, (blk_cell BK289.out 3).trans rfl, (blk_cell BK289.out 4).trans rfl⟩ (fun hHeld => ?_)
    clear hK K
    refine norm_ (a' := ?_) ?_ ?_
    rotate_left
    · show Act.put _ (some 24) _ = _
      simp only [Act.put, List.setIfInBounds_toArray, List.set_cons_zero, List.set_cons_succ, i64_w, i32_w]
      rfl
    refine pure_ (i := 12) (N := some 25) (v := ?_) (a' := ?_) #[true, true, true, true, true, true, true, true, true, true, true, true, true, false] rfl rfl (any_of HT_.out (by kernel_rfl)) (fun _ _ _ h => h) (Or.inl ⟨by rfl, ?_⟩) ?_ ?_
    rotate_left
    · intro w'
      go_simp
      with_reducible rfl
    rotate_left
    · simp only [Act.put, List.setIfInBounds_toArray, List.set_cons_zero, List.set_cons_succ, i64_w, i32_w]
      rfl
    refine pure_ (i := 13) (N := some 6) (v := ?_) (a' := ?_) #[true, true, true, true, true, true, true, true, true, true, true, true, true, true] rfl rfl (any_of HT_.out (by kernel_rfl)) (fun _ _ _ h => h) (Or.inl ⟨by rfl, ?_⟩) ?_ ?_
    rotate_left
    · intro w'
      go_simp
      with_reducible rfl
    rotate_left
    · simp only [Act.put, List.setIfInBounds_toArray, List.set_cons_zero, List.set_cons_succ, i64_w, i32_w]
      rfl
    refine done_ (done_of HT_.out (by kernel_rfl)) ?_
    try go_wp2
    go_ret
    exact ⟨by first | rfl | (simp [errW_none, errW_some] <;> rfl) | (simp [*, errW_none, errW_some] <;> rfl), by repeat (first | (with_reducible first | exact HB.out | apply below_alloc | apply pw_below_drewN | apply below_drew1 | refine below_set ?_ GE289.out) | exact HB.out)⟩
  · replace c8 := Bool.eq_false_iff.mpr c8
    subst c8
    have H1 : (some false) = some r := by rw [if_neg (show ¬ (false = true) by decide)] at H; exact H
    clear H
    have H := H1
    clear H1
    exact absurd (Option.some.inj H) (by rw [hT.out]; decide)

/-- THE ONE PURE STATEMENT of railplanlaw6_DynamicsGenerated: yours. -/
def railplanlaw6_DynamicsGenerated.Pure : Prop := ∀ (l0 : List Int) (l1 : List Int) (a2 : Int), l0.length ≤ maxLen → l0.length * 8 ≤ 140737488351232 → (∀ x ∈ l0, (Lit.int .i64 x).wf = true) → l1.length ≤ maxLen → l1.length * 8 ≤ 140737488351232 → (∀ x ∈ l1, (Lit.int .i64 x).wf = true) → (Lit.int .i64 a2).wf = true → ∃ k, railplanlaw6_DynamicsGenerated.f k l0 l1 a2 = some true
theorem railplanlaw6_DynamicsGenerated.walk (P : railplanlaw6_DynamicsGenerated.Pure) (a0 : Option Addr) (len0 cap0 : Nat) (z0 : List Int) (a1 : Option Addr) (len1 cap1 : Nat) (z1 : List Int) (a2 : Int) (w : World) (w0 : (a0 = none ∧ len0 = 0 ∧ cap0 = 0 ∧ z0 = []) ∨ ∃ x, a0 = some x ∧ len0 ≤ cap0 ∧ cap0 ≤ maxLen ∧ z0.length = cap0 ∧ (∀ i, i < z0.length → w.cell? (x.add i) = some (.int .i64 (z0.getD i 0))) ∧ ∀ n ∈ z0, (Lit.int .i64 n).wf = true) (y0 : len0 * 8 ≤ 140737488351232) (w1 : (a1 = none ∧ len1 = 0 ∧ cap1 = 0 ∧ z1 = []) ∨ ∃ x, a1 = some x ∧ len1 ≤ cap1 ∧ cap1 ≤ maxLen ∧ z1.length = cap1 ∧ (∀ i, i < z1.length → w.cell? (x.add i) = some (.int .i64 (z1.getD i 0))) ∧ ∀ n ∈ z1, (Lit.int .i64 n).wf = true) (y1 : len1 * 8 ≤ 140737488351232) (w2 : (Lit.int .i64 a2).wf = true) :
    Calls Try.prog 10 #[.slice a0 len0 cap0, .slice a1 len1 cap1, .int .i64 a2] w fun e w' => e = .returned (.bool true) ∧ Below w.heap.size w w' := by
  obtain ⟨l0, rfl, hr0, hm0, hw0, hc0⟩ := ReadsInt.ofRowC w0
  obtain ⟨l1, rfl, hr1, hm1, hw1, hc1⟩ := ReadsInt.ofRowC w1
  obtain ⟨k, h⟩ := P l0 l1 a2 hm0 y0 hw0 hm1 y1 hw1 w2
  refine (railplanlaw6_DynamicsGenerated.calls k _ _ l0 _ _ l1 a2 true w (Kd.C_of_reads (d := (0 : Int)) (h1 := fun _ => rfl) hr0) hc0 (Kd.C_of_reads (d := (0 : Int)) (h1 := fun _ => rfl) hr1) hc1 h ⟨rfl⟩).mono ?_
  rintro e w' ⟨rfl, hd⟩
  exact ⟨rfl, hd⟩

end Go.Proofs.Ytfnpoalffpnllaa.XDynamicsGenerated
