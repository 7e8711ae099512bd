-- This session's own text, written by wip/tools/xprint.py after the form of the kit's print.
import Derived.Test.YtnmhdeibjglhcaaXMaxplusRawx0
import Derived.Test.YtnmhdeibjglhcaaXMaxplusRawx1
import Derived.Test.YtnmhdeibjglhcaaXMaxplusRawx3
import Derived.Test.YtnmhdeibjglhcaaXMaxplusRawx4
import Derived.Test.YtnmhdeibjglhcaaXMaxplusRawx6
import Derived.Test.YtnmhdeibjglhcaaXMaxplusRawx7
import Derived.Test.YtnmhdeibjglhcaaXMaxplusRawx9
import Derived.Test.YtnmhdeibjglhcaaXMaxplusRawx10
import Derived.Test.YtnmhdeibjglhcaaXMaxplusRawx11
import Derived.Test.YtnmhdeibjglhcaaXMaxplusRawx12
namespace Go.Proofs.Ytnmhdeibjglhcaa.XMaxplusRaw
open Go.RowKit Go.Proofs.YtnmhdeibjglhcaaW.PrintWords Go.Proofs.YtnmhdeibjglhcaaW.PrintLast Go.Proofs.YtnmhdeibjglhcaaW.PrintMore
attribute [local go_sem] max2_int min2_int max_two min_two max_three min_three max_four min_four   -- for this text's walks alone
set_option linter.unusedVariables false
set_option linter.unusedSimpArgs false

/-! ### railplanlaw33_MaxplusRaw: function 7 -/
mutual
def railplanlaw33_MaxplusRaw.j0 : Nat → List Int → Int → Int → Int → Int → List (List Int) → List (List Int) → Bool → Option (Bool)
 | 0, _, _, _, _, _, _, _, _ => none
 | k + 1, x2, x4, x5, x6, x7, x17, x18, x53 => if x53 = true then (if 1 < (x17.length : Int) then ((railplankeep_Pick.f (wrap64 (Int.tdiv x4 4)) ((rd_L1 x17 1).length : Int)).bind fun t341 => (if 0 ≤ t341 then (if t341 ≤ ((rd_L1 x17 1).length : Int) then (railplanlaw33_MaxplusRaw.j1 k x2 x5 x6 x7 (x17.set (1 : Int).toNat ((rd_L1 x17 1).take (t341 : Int).toNat)) x18) else (none)) else (none))) else (none)) else (railplanlaw33_MaxplusRaw.j1 k x2 x5 x6 x7 x17 x18)
def railplanlaw33_MaxplusRaw.j1 : Nat → List Int → Int → Int → Int → List (List Int) → List (List Int) → Option (Bool)
 | 0, _, _, _, _, _, _ => none
 | k + 1, x2, x5, x6, x7, x17, x18 => (maxplus_Mul.f k x17 x18).bind fun bt348 => ((railplanref30_Mul.f k x17 x18).bind fun bt352 => ((maxplus_Apply.f k x17 x2).bind fun bt356 => ((railplanref30_Apply.f k x17 x2).bind fun bt360 => ((maxplus_Power.f k x17 (Int.tmod x5 20)).bind fun bt364 => ((railplanref30_Power.f k x17 (Int.tmod x5 20)).bind fun bt368 => ((maxplus_Recover.f k x17 x2 x6 (Int.tmod x7 50)).bind fun bt372 => ((railplanref30_Recover.f k x17 x2 x6 (Int.tmod x7 50)).bind fun bt374 => ((railplanlaw33_awake.f k).bind fun t376 => (if t376 = true then ((maxplus_Check.f k x17).bind fun t377 => ((railplanref30_CheckMatrix.f k x17).bind fun t378 => (if (t377 == t378) = true then ((maxplus_Vector.f k (x17.length : Int) x2).bind fun t379 => ((railplanref30_Vector.f k (x17.length : Int) x2).bind fun t380 => (if (t379 == t380) = true then ((railplankeep_SameLists_int.f k bt348.1 bt352.1).bind fun t381 => (if t381 = true then (if bt348.2 = bt352.2 then ((railplankeep_Same_int.f k bt356.1 bt360.1).bind fun t382 => (if t382 = true then (if bt356.2 = bt360.2 then ((railplankeep_SameLists_int.f k bt364.1 bt368.1).bind fun t383 => (if t383 = true then (if bt364.2 = bt368.2 then (if bt372.1 = bt374.1 then (some (bt372.2 == bt374.2)) else (some false)) else (some false)) else (some false))) else (some false)) else (some false))) else (some false)) else (some false))) else (some false)))) else (some false)))) else (some false))))))))))
end
def railplanlaw33_MaxplusRaw.f (k : Nat) (l0 : List Int) (l1 : List Int) (l2 : List Int) (a3 : Int) (a4 : Int) (a5 : Int) (a6 : Int) (a7 : Int) : Option (Bool) := (railplankeep_Pick.f a3 4).bind fun t330 => ((railplanlaw33_square.f k (wrap64 (1 + t330)) l0).bind fun t331 => ((railplankeep_Pick.f (wrap64 (Int.tdiv a3 4)) 4).bind fun t334 => ((railplanlaw33_square.f k (wrap64 (1 + t334)) l1).bind fun t335 => (if (t331.length : Int) > 1 then ((railplankeep_Pick.f a4 4).bind fun t338 => (railplanlaw33_MaxplusRaw.j0 k l2 a4 a5 a6 a7 t331 t335 (t338 == 0))) else (railplanlaw33_MaxplusRaw.j0 k l2 a4 a5 a6 a7 t331 t335 false)))))
theorem railplanlaw33_MaxplusRaw.mono_l : ∀ k, (∀ y0 y1 y2 y3 y4 y5 y6 y7, LeO (railplanlaw33_MaxplusRaw.j0 k y0 y1 y2 y3 y4 y5 y6 y7) (railplanlaw33_MaxplusRaw.j0 (k + 1) y0 y1 y2 y3 y4 y5 y6 y7)) ∧ (∀ y0 y1 y2 y3 y4 y5, LeO (railplanlaw33_MaxplusRaw.j1 k y0 y1 y2 y3 y4 y5) (railplanlaw33_MaxplusRaw.j1 (k + 1) y0 y1 y2 y3 y4 y5))
 | 0 => ⟨fun _ _ _ _ _ _ _ _ r h => by simp [railplanlaw33_MaxplusRaw.j0] at h, fun _ _ _ _ _ _ r h => by simp [railplanlaw33_MaxplusRaw.j1] at h⟩
 | k + 1 => by
  obtain ⟨ih0, ih1⟩ := railplanlaw33_MaxplusRaw.mono_l k
  refine ⟨?_, ?_⟩
  ·intro y0 y1 y2 y3 y4 y5 y6 y7
   unfold railplanlaw33_MaxplusRaw.j0
   repeat' first
   | (with_reducible exact ih0 _ _ _ _ _ _ _ _)
   | (with_reducible exact ih1 _ _ _ _ _ _)
   | (with_reducible exact maxplus_Apply.mono _ _ _)
   | (with_reducible exact maxplus_Check.mono _ _)
   | (with_reducible exact maxplus_Mul.mono _ _ _)
   | (with_reducible exact maxplus_Power.mono _ _ _)
   | (with_reducible exact maxplus_Recover.mono _ _ _ _ _)
   | (with_reducible exact maxplus_Vector.mono _ _ _)
   | (with_reducible exact railplankeep_SameLists_int.mono _ _ _)
   | (with_reducible exact railplankeep_Same_int.mono _ _ _)
   | (with_reducible exact railplanlaw33_awake.mono _)
   | (with_reducible exact railplanlaw33_square.mono _ _ _)
   | (with_reducible exact railplanref30_Apply.mono _ _ _)
   | (with_reducible exact railplanref30_CheckMatrix.mono _ _)
   | (with_reducible exact railplanref30_Mul.mono _ _ _)
   | (with_reducible exact railplanref30_Power.mono _ _ _)
   | (with_reducible exact railplanref30_Recover.mono _ _ _ _ _)
   | (with_reducible exact railplanref30_Vector.mono _ _ _)
   | (with_reducible exact LeO.refl _)
   | (with_reducible exact LeO.none _)
   | (with_reducible refine LeO.ite ?_ ?_)
   | (with_reducible refine LeO.bind ?_ (fun _ => ?_))
   | exact ih0 _ _ _ _ _ _ _ _
   | exact ih1 _ _ _ _ _ _
   | exact maxplus_Apply.mono _ _ _
   | exact maxplus_Check.mono _ _
   | exact maxplus_Mul.mono _ _ _
   | exact maxplus_Power.mono _ _ _
   | exact maxplus_Recover.mono _ _ _ _ _
   | exact maxplus_Vector.mono _ _ _
   | exact railplankeep_SameLists_int.mono _ _ _
   | exact railplankeep_Same_int.mono _ _ _
   | exact railplanlaw33_awake.mono _
   | exact railplanlaw33_square.mono _ _ _
   | exact railplanref30_Apply.mono _ _ _
   | exact railplanref30_CheckMatrix.mono _ _
   | exact railplanref30_Mul.mono _ _ _
   | exact railplanref30_Power.mono _ _ _
   | exact railplanref30_Recover.mono _ _ _ _ _
   | exact railplanref30_Vector.mono _ _ _
   | exact LeO.none _
   | refine LeO.ite ?_ ?_
   | refine LeO.bind ?_ (fun _ => ?_)
  ·intro y0 y1 y2 y3 y4 y5
   unfold railplanlaw33_MaxplusRaw.j1
   repeat' first
   | (with_reducible exact ih0 _ _ _ _ _ _ _ _)
   | (with_reducible exact ih1 _ _ _ _ _ _)
   | (with_reducible exact maxplus_Apply.mono _ _ _)
   | (with_reducible exact maxplus_Check.mono _ _)
   | (with_reducible exact maxplus_Mul.mono _ _ _)
   | (with_reducible exact maxplus_Power.mono _ _ _)
   | (with_reducible exact maxplus_Recover.mono _ _ _ _ _)
   | (with_reducible exact maxplus_Vector.mono _ _ _)
   | (with_reducible exact railplankeep_SameLists_int.mono _ _ _)
   | (with_reducible exact railplankeep_Same_int.mono _ _ _)
   | (with_reducible exact railplanlaw33_awake.mono _)
   | (with_reducible exact railplanlaw33_square.mono _ _ _)
   | (with_reducible exact railplanref30_Apply.mono _ _ _)
   | (with_reducible exact railplanref30_CheckMatrix.mono _ _)
   | (with_reducible exact railplanref30_Mul.mono _ _ _)
   | (with_reducible exact railplanref30_Power.mono _ _ _)
   | (with_reducible exact railplanref30_Recover.mono _ _ _ _ _)
   | (with_reducible exact railplanref30_Vector.mono _ _ _)
   | (with_reducible exact LeO.refl _)
   | (with_reducible exact LeO.none _)
   | (with_reducible refine LeO.ite ?_ ?_)
   | (with_reducible refine LeO.bind ?_ (fun _ => ?_))
   | exact ih0 _ _ _ _ _ _ _ _
   | exact ih1 _ _ _ _ _ _
   | exact maxplus_Apply.mono _ _ _
   | exact maxplus_Check.mono _ _
   | exact maxplus_Mul.mono _ _ _
   | exact maxplus_Power.mono _ _ _
   | exact maxplus_Recover.mono _ _ _ _ _
   | exact maxplus_Vector.mono _ _ _
   | exact railplankeep_SameLists_int.mono _ _ _
   | exact railplankeep_Same_int.mono _ _ _
   | exact railplanlaw33_awake.mono _
   | exact railplanlaw33_square.mono _ _ _
   | exact railplanref30_Apply.mono _ _ _
   | exact railplanref30_CheckMatrix.mono _ _
   | exact railplanref30_Mul.mono _ _ _
   | exact railplanref30_Power.mono _ _ _
   | exact railplanref30_Recover.mono _ _ _ _ _
   | exact railplanref30_Vector.mono _ _ _
   | exact LeO.none _
   | refine LeO.ite ?_ ?_
   | refine LeO.bind ?_ (fun _ => ?_)
theorem railplanlaw33_MaxplusRaw.mono : ∀ a0 a1 a2 a3 a4 a5 a6 a7 k, LeO (railplanlaw33_MaxplusRaw.f k a0 a1 a2 a3 a4 a5 a6 a7) (railplanlaw33_MaxplusRaw.f (k + 1) a0 a1 a2 a3 a4 a5 a6 a7) := by
 intro a0 a1 a2 a3 a4 a5 a6 a7 k
 obtain ⟨ih0, ih1⟩ := railplanlaw33_MaxplusRaw.mono_l k
 unfold railplanlaw33_MaxplusRaw.f
 repeat' first
   | (with_reducible exact ih0 _ _ _ _ _ _ _ _)
   | (with_reducible exact ih1 _ _ _ _ _ _)
   | (with_reducible exact maxplus_Apply.mono _ _ _)
   | (with_reducible exact maxplus_Check.mono _ _)
   | (with_reducible exact maxplus_Mul.mono _ _ _)
   | (with_reducible exact maxplus_Power.mono _ _ _)
   | (with_reducible exact maxplus_Recover.mono _ _ _ _ _)
   | (with_reducible exact maxplus_Vector.mono _ _ _)
   | (with_reducible exact railplankeep_SameLists_int.mono _ _ _)
   | (with_reducible exact railplankeep_Same_int.mono _ _ _)
   | (with_reducible exact railplanlaw33_awake.mono _)
   | (with_reducible exact railplanlaw33_square.mono _ _ _)
   | (with_reducible exact railplanref30_Apply.mono _ _ _)
   | (with_reducible exact railplanref30_CheckMatrix.mono _ _)
   | (with_reducible exact railplanref30_Mul.mono _ _ _)
   | (with_reducible exact railplanref30_Power.mono _ _ _)
   | (with_reducible exact railplanref30_Recover.mono _ _ _ _ _)
   | (with_reducible exact railplanref30_Vector.mono _ _ _)
   | (with_reducible exact LeO.refl _)
   | (with_reducible exact LeO.none _)
   | (with_reducible refine LeO.ite ?_ ?_)
   | (with_reducible refine LeO.bind ?_ (fun _ => ?_))
   | exact ih0 _ _ _ _ _ _ _ _
   | exact ih1 _ _ _ _ _ _
   | exact maxplus_Apply.mono _ _ _
   | exact maxplus_Check.mono _ _
   | exact maxplus_Mul.mono _ _ _
   | exact maxplus_Power.mono _ _ _
   | exact maxplus_Recover.mono _ _ _ _ _
   | exact maxplus_Vector.mono _ _ _
   | exact railplankeep_SameLists_int.mono _ _ _
   | exact railplankeep_Same_int.mono _ _ _
   | exact railplanlaw33_awake.mono _
   | exact railplanlaw33_square.mono _ _ _
   | exact railplanref30_Apply.mono _ _ _
   | exact railplanref30_CheckMatrix.mono _ _
   | exact railplanref30_Mul.mono _ _ _
   | exact railplanref30_Power.mono _ _ _
   | exact railplanref30_Recover.mono _ _ _ _ _
   | exact railplanref30_Vector.mono _ _ _
   | exact LeO.none _
   | refine LeO.ite ?_ ?_
   | refine LeO.bind ?_ (fun _ => ?_)
def railplanlaw33_MaxplusRaw.T4 : Bool × List (List Nat × List Nat) := (true, [([], []), ([], []), ([1], [1]), ([2], [2]), ([], []), ([4], [4]), ([], []), ([6], [6]), ([7], [7]), ([8], [8]), ([5, 9], [5, 9]), ([3, 10], [3, 10]), ([0, 0, 1, 2, 3, 4, 5, 6, 7, 8, 9, 10, 11], [0]), ([12, 11, 10, 0, 1, 2, 3, 4, 5, 6, 7, 8, 9, 10, 11], [11, 12])])
def railplanlaw33_MaxplusRaw.B4 : List Nat := [0, 0, 2, 6, 0, 16, 0, 64, 192, 448, 1008, 2046, 4095, 8191]
theorem railplanlaw33_MaxplusRaw.tab4 : rtab .any (opsOf Try.f7 4) = railplanlaw33_MaxplusRaw.T4 := by kernel_rfl
theorem railplanlaw33_MaxplusRaw.bits4 : waitsOk railplanlaw33_MaxplusRaw.T4.2 railplanlaw33_MaxplusRaw.B4 = true := by kernel_rfl
set_option maxHeartbeats 8000000 in
set_option maxRecDepth 100000 in
theorem railplanlaw33_MaxplusRaw.calls (k : Nat) (A0 : Option Addr) (c0 : Nat) (l0 : List Int) (A1 : Option Addr) (c1 : Nat) (l1 : List Int) (A2 : Option Addr) (c2 : Nat) (l2 : List Int) (a3 : Int) (a4 : Int) (a5 : Int) (a6 : Int) (a7 : Int) (r : Bool) (w : World) (hr0 : Kd.C (Kd.int .i64) w A0 l0.length l0) (hc0 : l0.length ≤ c0) (hr1 : Kd.C (Kd.int .i64) w A1 l1.length l1) (hc1 : l1.length ≤ c1) (hr2 : Kd.C (Kd.int .i64) w A2 l2.length l2) (hc2 : l2.length ≤ c2) (h : railplanlaw33_MaxplusRaw.f k l0 l1 l2 a3 a4 a5 a6 a7 = some r) (hT : Aside0 (r = true)) :
  Calls Try.prog 7 #[.slice A0 l0.length c0, .slice A1 l1.length c1, .slice A2 l2.length c2, .int .i64 a3, .int .i64 a4, .int .i64 a5, .int .i64 a6, .int .i64 a7] w fun e w' => e = .returned (.bool r) ∧ Below w.heap.size w w' := by
 have HR0 := Aside0.mk hr0
 have HC0 := Aside0.mk hc0
 clear hr0 hc0
 have HR1 := Aside0.mk hr1
 have HC1 := Aside0.mk hc1
 clear hr1 hc1
 have HR2 := Aside0.mk hr2
 have HC2 := Aside0.mk hc2
 clear hr2 hc2
 have HB := Aside0.mk (Below.refl w.heap.size w)
 have H : ((railplankeep_Pick.f a3 4).bind fun t330 => ((railplanlaw33_square.f k (wrap64 (1 + t330)) l0).bind fun t331 => ((railplankeep_Pick.f (wrap64 (Int.tdiv a3 4)) 4).bind fun t334 => ((railplanlaw33_square.f k (wrap64 (1 + t334)) l1).bind fun t335 => (if (t331.length : Int) > 1 then ((railplankeep_Pick.f a4 4).bind fun t338 => (railplanlaw33_MaxplusRaw.j0 k l2 a4 a5 a6 a7 t331 t335 (t338 == 0))) else (railplanlaw33_MaxplusRaw.j0 k l2 a4 a5 a6 a7 t331 t335 false)))))) = some r := h
 clear h
 replace H := Option.bind_eq_some_iff.mp H
 obtain ⟨t330, A90, H⟩ := H
 replace H : ((railplanlaw33_square.f k (wrap64 (1 + t330)) l0).bind fun t331 => ((railplankeep_Pick.f (wrap64 (Int.tdiv a3 4)) 4).bind fun t334 => ((railplanlaw33_square.f k (wrap64 (1 + t334)) l1).bind fun t335 => (if (t331.length : Int) > 1 then ((railplankeep_Pick.f a4 4).bind fun t338 => (railplanlaw33_MaxplusRaw.j0 k l2 a4 a5 a6 a7 t331 t335 (t338 == 0))) else (railplanlaw33_MaxplusRaw.j0 k l2 a4 a5 a6 a7 t331 t335 false))))) = some r := H
 have A9 := Aside0.mk A90
 clear A90
 replace H := Option.bind_eq_some_iff.mp H
 obtain ⟨t331, A100, H⟩ := H
 replace H : ((railplankeep_Pick.f (wrap64 (Int.tdiv a3 4)) 4).bind fun t334 => ((railplanlaw33_square.f k (wrap64 (1 + t334)) l1).bind fun t335 => (if (t331.length : Int) > 1 then ((railplankeep_Pick.f a4 4).bind fun t338 => (railplanlaw33_MaxplusRaw.j0 k l2 a4 a5 a6 a7 t331 t335 (t338 == 0))) else (railplanlaw33_MaxplusRaw.j0 k l2 a4 a5 a6 a7 t331 t335 false)))) = some r := H
 have A10 := Aside0.mk A100
 clear A100
 replace H := Option.bind_eq_some_iff.mp H
 obtain ⟨t334, A110, H⟩ := H
 replace H : ((railplanlaw33_square.f k (wrap64 (1 + t334)) l1).bind fun t335 => (if (t331.length : Int) > 1 then ((railplankeep_Pick.f a4 4).bind fun t338 => (railplanlaw33_MaxplusRaw.j0 k l2 a4 a5 a6 a7 t331 t335 (t338 == 0))) else (railplanlaw33_MaxplusRaw.j0 k l2 a4 a5 a6 a7 t331 t335 false))) = some r := H
 have A11 := Aside0.mk A110
 clear A110
 replace H := Option.bind_eq_some_iff.mp H
 obtain ⟨t335, A120, H⟩ := H
 replace H : (if (t331.length : Int) > 1 then ((railplankeep_Pick.f a4 4).bind fun t338 => (railplanlaw33_MaxplusRaw.j0 k l2 a4 a5 a6 a7 t331 t335 (t338 == 0))) else (railplanlaw33_MaxplusRaw.j0 k l2 a4 a5 a6 a7 t331 t335 false)) = some r := H
 have A12 := Aside0.mk A120
 clear A120
 have HC13 := Aside0.mk H
 clear H
 go_enter Try.func7, Try.ntmps7
 go_upto_region 3 with (first | ((with_reducible refine gate_callee (f := 14) rfl ?_); refine goesL_ (some 36) rfl rfl Try.func14 (by kernel_rfl) rfl #[.int .i64 a3, .int .i64 4] rfl (by (try simp only [List.map_toArray, List.map_cons, List.map_nil]); first | done | rfl | (simp only [List.length_drop, List.length_take]; rfl)) ?_; (with_reducible refine (railplankeep_Pick.calls a3 4 t330 _ A9.out).mono ?_); rintro e w' ⟨rfl, ⟨nd, rfl⟩⟩; refine ⟨_, rfl, ?_⟩) | ((with_reducible refine gate_callee (f := 25) rfl ?_); refine goesL_ (some 39) rfl rfl Try.func25 (by kernel_rfl) rfl #[.int .i64 (wrap64 (1 + t330)), .slice A0 l0.length c0] rfl (by (try simp only [List.map_toArray, List.map_cons, List.map_nil]); first | done | rfl | (simp only [List.length_drop, List.length_take]; rfl)) ?_; (with_reducible refine (railplanlaw33_square.calls k (wrap64 (1 + t330)) _ _ l0 t331 _ ?side1 ?side2 A10.out).mono ?_); (case side1 => repeat (first | exact HR0.out | (with_reducible refine Kd.C_alloc ?_ _) | (with_reducible refine Kd.C_drewN ?_ _) | (with_reducible refine Kd.C_drew ?_))); (case side2 => exact HC0.out); rintro e w14 ⟨v332, rfl, ho0, hb⟩; refine ⟨_, rfl, ?_⟩; have n0_ := Aside0.mk (Kd.N_lower (Kd.N_mono (ok' := fun k_ => True) (Kd.S_N (Kd.S_bound ho0)) (fun k_ hk_ => trivial)) (below_size (by repeat (first | (with_reducible first | exact HB.out | apply below_alloc | apply pw_below_drewN | apply below_drew1) | exact HB.out)))); have n1_ := Aside0.mk (below_step (by repeat (first | (with_reducible first | exact HB.out | apply below_alloc | apply pw_below_drewN | apply below_drew1) | exact HB.out)) hb); clear HB; have HO333 := n0_; have HB := n1_; clear n0_ n1_; (try clear hb); (try clear hb2); (try clear hk); (try clear hi); (try clear ho0)) | ((with_reducible refine gate_callee (f := 14) rfl ?_); refine goesL_ (some 42) rfl rfl Try.func14 (by kernel_rfl) rfl #[.int .i64 (wrap64 (Int.tdiv a3 4)), .int .i64 4] rfl (by (try simp only [List.map_toArray, List.map_cons, List.map_nil]); first | done | rfl | (simp only [List.length_drop, List.length_take]; rfl)) ?_; (with_reducible refine (railplankeep_Pick.calls (wrap64 (Int.tdiv a3 4)) 4 t334 _ A11.out).mono ?_); rintro e w' ⟨rfl, ⟨nd, rfl⟩⟩; refine ⟨_, rfl, ?_⟩) | ((with_reducible refine gate_callee (f := 25) rfl ?_); refine goesL_ (some 45) rfl rfl Try.func25 (by kernel_rfl) rfl #[.int .i64 (wrap64 (1 + t334)), .slice A1 l1.length c1] rfl (by (try simp only [List.map_toArray, List.map_cons, List.map_nil]); first | done | rfl | (simp only [List.length_drop, List.length_take]; rfl)) ?_; (with_reducible refine (railplanlaw33_square.calls k (wrap64 (1 + t334)) _ _ l1 t335 _ ?side1 ?side2 A12.out).mono ?_); (case side1 => repeat (first | exact (Kd.C_below HR1.out (by repeat (first | (with_reducible first | exact HB.out | apply below_alloc | apply pw_below_drewN | apply below_drew1) | exact HB.out))) | (with_reducible refine Kd.C_alloc ?_ _) | (with_reducible refine Kd.C_drewN ?_ _) | (with_reducible refine Kd.C_drew ?_))); (case side2 => exact HC1.out); rintro e w15 ⟨v336, rfl, ho0, hb⟩; refine ⟨_, rfl, ?_⟩; have n0_ := Aside0.mk (Kd.N_elder' (by (with_reducible repeat (first | apply Kd.N_alloc | apply Kd.N_drewN | apply Kd.N_drew)); exact HO333.out) (by first | exact Kd.N_base ho0 | exact Kd.S_base ho0 | exact Kd.R_base ho0 | exact Kd.Q_base ho0) hb); have n1_ := Aside0.mk (Kd.N_lower (Kd.N_mono (ok' := fun k_ => some k_ ≠ (v332 : Value).ownBlock) (Kd.S_N (Kd.S_bound ho0)) (fun k_ hk_ => (Kd.fresh' (Kd.N_lt (by (with_reducible repeat (first | apply Kd.N_alloc | apply Kd.N_drewN | apply Kd.N_drew)); exact HO333.out)) k_ hk_.2.1))) (below_size (by repeat (first | (with_reducible first | exact HB.out | apply below_alloc | apply pw_below_drewN | apply below_drew1) | exact HB.out)))); have n2_ := Aside0.mk (below_step (by repeat (first | (with_reducible first | exact HB.out | apply below_alloc | apply pw_below_drewN | apply below_drew1) | exact HB.out)) hb); clear HO333; clear HB; have HO333 := n0_; have HO337 := n1_; have HB := n2_; clear n0_ n1_ n2_; (try clear hb); (try clear hb2); (try clear hk); (try clear hi); (try clear ho0)))
 (try simp only [Act.put, List.setIfInBounds_toArray, List.set_cons_zero, List.set_cons_succ])
 go_cut [53] (fun v53 wc => ∃ (kq : Nat) (x53_12 : Bool), v53 = .bool x53_12 ∧ Aside0 (railplanlaw33_MaxplusRaw.j0 kq l2 a4 a5 a6 a7 t331 t335 x53_12 = some r) ∧ Aside0 (kq ≤ k) ∧ Aside0 (Kd.N (Kd.slice 3 (Kd.int .i64)) 22 wc w.heap.size (fun k_ => some k_ ≠ (v336 : Value).ownBlock) v332 t331) ∧ Aside0 (Kd.N (Kd.slice 3 (Kd.int .i64)) 22 wc w.heap.size (fun k_ => some k_ ≠ (v332 : Value).ownBlock) v336 t335) ∧ Aside0 (Below w.heap.size w wc))
 case first =>
  have H := HC13.out
  clear HC13
  by_cases c16 : (t331.length : Int) > 1
  ·rw [if_pos c16] at H
   have c16b0 : decide (1 < (t331.length : Int)) = true := decide_eq_true c16
   have c16b1 : decide (1 < t331.length) = true := decide_eq_true (by omega)
   clear c16
   (first | rw [c16b0] | (simp only [i64_w, i32_w]; rw [c16b0]) | skip)
   replace H := Option.bind_eq_some_iff.mp H
   obtain ⟨t338, A170, H⟩ := H
   replace H : (railplanlaw33_MaxplusRaw.j0 k l2 a4 a5 a6 a7 t331 t335 (t338 == 0)) = some r := H
   have A17 := Aside0.mk A170
   clear A170
   have H' := Aside0.mk H
   clear H
   obtain ⟨Ao18, co18, eo18⟩ := Kd.N_slice HO333.out
   subst eo18
   go_wp2_with (first | (go_at_call 14; (with_reducible refine (railplankeep_Pick.calls a4 4 t338 _ A17.out).mono ?_); rintro e w' ⟨rfl, ⟨nd, rfl⟩⟩))
   go_meet
   case rel => exact ⟨_, ((t338 == 0)), (by first | rfl | (simp; done) | (simp [*]; done)), H', ⟨by first | omega | exact Nat.le_refl _⟩, ⟨by (with_reducible repeat (first | apply Kd.N_alloc | apply Kd.N_drewN | apply Kd.N_drew)); exact Kd.N_mono HO333.out (fun _ hk => hk.2)⟩, ⟨by (with_reducible repeat (first | apply Kd.N_alloc | apply Kd.N_drewN | apply Kd.N_drew)); exact HO337.out⟩, ⟨by repeat (first | (with_reducible first | exact HB.out | apply below_alloc | apply pw_below_drewN | apply below_drew1) | exact HB.out)⟩⟩
  ·rw [if_neg c16] at H
   have c16b0 : decide (1 < (t331.length : Int)) = false := decide_eq_false c16
   have c16b1 : decide (1 < t331.length) = false := decide_eq_false (by omega)
   clear c16
   (first | rw [c16b0] | (simp only [i64_w, i32_w]; rw [c16b0]) | skip)
   have H' := Aside0.mk H
   clear H
   obtain ⟨Ao19, co19, eo19⟩ := Kd.N_slice HO333.out
   subst eo19
   go_wp2
   go_meet
   case rel => exact ⟨_, (false), (by first | rfl | (simp; done) | (simp [*]; done)), H', ⟨by first | omega | exact Nat.le_refl _⟩, ⟨by (with_reducible repeat (first | apply Kd.N_alloc | apply Kd.N_drewN | apply Kd.N_drew)); exact Kd.N_mono HO333.out (fun _ hk => hk.2)⟩, ⟨by (with_reducible repeat (first | apply Kd.N_alloc | apply Kd.N_drewN | apply Kd.N_drew)); exact HO337.out⟩, ⟨by repeat (first | (with_reducible first | exact HB.out | apply below_alloc | apply pw_below_drewN | apply below_drew1) | exact HB.out)⟩⟩
 case rest =>
  clear HC13
  try clear c1
  try clear c2
  try clear p2
  try clear p6
  try clear c7
  try clear c14
  try clear c16
  try clear c16b0
  try clear c16b1
  obtain ⟨kq, x53_12, rfl, HA, HJ12, HO_17, HO_18, HB⟩ := hcut
  cases kq with
  | zero => exact absurd HA.out (by simp [railplanlaw33_MaxplusRaw.j0])
  | succ kj12 =>
   have H := HA.out
   clear HA
   simp only [railplanlaw33_MaxplusRaw.j0] at H
   have HC20 := Aside0.mk H
   clear H
   go_upto_if 53 with (fail)
   go_cut [] (fun wc => ∃ (kq : Nat) (x17_19 : List (List Int)), Aside0 (railplanlaw33_MaxplusRaw.j1 kq l2 a5 a6 a7 x17_19 t335 = some r) ∧ Aside0 (kq ≤ kj12) ∧ Aside0 (Kd.N (Kd.slice 3 (Kd.int .i64)) 22 wc w.heap.size (fun k_ => some k_ ≠ (v336 : Value).ownBlock) v332 x17_19) ∧ Aside0 (Kd.N (Kd.slice 3 (Kd.int .i64)) 22 wc w.heap.size (fun k_ => some k_ ≠ (v332 : Value).ownBlock) v336 t335) ∧ Aside0 (Below w.heap.size w wc))
   case first =>
    have H := HC20.out
    clear HC20
    by_cases c21 : x53_12 = true
    ·subst c21
     have H1 : (if 1 < (t331.length : Int) then ((railplankeep_Pick.f (wrap64 (Int.tdiv a4 4)) ((rd_L1 t331 1).length : Int)).bind fun t341 => (if 0 ≤ t341 then (if t341 ≤ ((rd_L1 t331 1).length : Int) then (railplanlaw33_MaxplusRaw.j1 kj12 l2 a5 a6 a7 (t331.set (1 : Int).toNat ((rd_L1 t331 1).take (t341 : Int).toNat)) t335) else (none)) else (none))) else (none)) = some r := by rw [if_pos rfl] at H; exact H
     clear H
     have H := H1
     clear H1
     by_cases c22 : 1 < (t331.length : Int)
     ·rw [if_pos c22] at H
      have c22b0 : decide (1 < (t331.length : Int)) = true := decide_eq_true c22
      have c22b1 : decide (1 < t331.length) = true := decide_eq_true (by omega)
      clear c22
      (first | rw [c22b0] | (simp only [i64_w, i32_w]; rw [c22b0]) | skip)
      replace H := Option.bind_eq_some_iff.mp H
      obtain ⟨t341, A230, H⟩ := H
      replace H : (if 0 ≤ t341 then (if t341 ≤ ((rd_L1 t331 1).length : Int) then (railplanlaw33_MaxplusRaw.j1 kj12 l2 a5 a6 a7 (t331.set (1 : Int).toNat ((rd_L1 t331 1).take (t341 : Int).toNat)) t335) else (none)) else (none)) = some r := H
      have A23 := Aside0.mk A230
      clear A230
      by_cases c24 : 0 ≤ t341
      ·rw [if_pos c24] at H
       have c24b0 := eq_true c24
       have c24b1 : decide (0 ≤ t341) = true := decide_eq_true c24
       clear c24
       by_cases c25 : t341 ≤ ((rd_L1 t331 1).length : Int)
       ·rw [if_pos c25] at H
        have c25b0 := eq_true c25
        have c25b1 : decide (t341 ≤ ((rd_L1 t331 1).length : Int)) = true := decide_eq_true c25
        clear c25
        obtain ⟨y342, hy342⟩ : ∃ y_ : List Int, y_ = ((rd_L1 t331 1).take (t341 : Int).toNat) := ⟨_, rfl⟩
        replace H : (railplanlaw33_MaxplusRaw.j1 kj12 l2 a5 a6 a7 (t331.set (1 : Int).toNat y342) t335) = some r := by first | (rw [hy342]; with_reducible exact H) | (have H2_ := (Option.bind_some _ _).symm.trans H; rw [hy342]; with_reducible exact H2_) | (have H2_ := (Option.bind_some _ _).symm.trans H; with_reducible exact H2_) | with_reducible exact H | (rw [hy342]; exact H) | exact H
        have Ny342 := Aside0.mk hy342
        clear hy342
        obtain ⟨y347, hy347⟩ : ∃ y_ : List (List Int), y_ = (t331.set (1 : Int).toNat y342) := ⟨_, rfl⟩
        replace H : (railplanlaw33_MaxplusRaw.j1 kj12 l2 a5 a6 a7 y347 t335) = some r := by first | (rw [hy347]; with_reducible exact H) | (have H2_ := (Option.bind_some _ _).symm.trans H; rw [hy347]; with_reducible exact H2_) | (have H2_ := (Option.bind_some _ _).symm.trans H; with_reducible exact H2_) | with_reducible exact H | (rw [hy347]; exact H) | exact H
        have Ny347 := Aside0.mk hy347
        clear hy347
        have H' := Aside0.mk H
        clear H
        try go_wp2
        have n0_ := Aside0.mk (Kd.N_drew HO_17.out)
        have n1_ := Aside0.mk (Kd.N_drew HO_18.out)
        have n2_ := Aside0.mk (below_drew1 HB.out)
        clear HO_17
        clear HO_18
        clear HB
        have HO_17 := n0_
        have HO_18 := n1_
        have HB := n2_
        clear n0_ n1_ n2_
        obtain ⟨Ao28, co28, eo28⟩ := Kd.N_slice HO_17.out
        (first | subst eo28 | (injection eo28 with f1_ f2_ f3_; have f4_ := f1_.symm; have f5_ := f3_.symm; clear f1_ f2_ f3_; subst f4_; subst f5_))
        have p339 : 0 ≤ (1 : Int) := (by omega)
        have q339 : 1 < (t331.length : Int) := of_decide_eq_true (by first | (with_reducible assumption) | assumption)
        obtain ⟨ad339, A339_0, c339_0, e339, hx339_0, hl339_0, hi339_0⟩ := at_L1 (Kd.N_reads' HO_17.out).2.2 1 p339 q339
        cases e339
        obtain ⟨ce339, hce339, hMe339, hcc339⟩ := Kd.N_get HO_17.out [] 1 p339 (by first | exact q339 | exact of_decide_eq_true (by first | (with_reducible assumption) | assumption) | (have e_ := (Kd.N_reads' HO_17.out).1; omega))
        obtain ⟨ua339_0, uc339_0, rfl, ul339_0, ge339_0⟩ := Kd.FK_slice_open hMe339
        have hv339_0 := hcc339 0 _ rfl
        rw [Nat.add_zero, show ((Kd.slice 3 (Kd.int .i64))).sz = 1 from rfl, Nat.mul_one] at hv339_0
        replace hv339_0 := Option.some.inj (hv339_0.symm.trans hx339_0)
        injection hv339_0 with hva_ hvn_ hvc_
        rw [hva_] at ge339_0
        rw [hvc_] at ul339_0
        have HL339_0 := Aside0.mk (show Kd.V (Kd.int .i64) 3 _ w.heap.size _ _ (rd_L1 t331 1) from Kd.V_mk ul339_0 ge339_0)
        clear hva_ hvn_ hvc_ ge339_0 ul339_0
        clear hcc339 hce339
        (try simp only [show (1 : Int).toNat = 1 from rfl, Nat.reduceMul, Nat.reduceEqDiff, Go.Addr.add, ↓reduceIte] at hx339_0)
        have qi339 : (1 < t331.length) = True := eq_true (by omega)
        (try rw [show ((1 : Int)).toNat = 1 from rfl] at hx339_0)
        have HR339_0 := Aside0.mk hi339_0
        have HC339_0 := Aside0.mk hl339_0
        clear hi339_0 hl339_0
        replace p339 := eq_true p339
        replace q339 := eq_true q339
        have p340 : 0 ≤ (1 : Int) := (by omega)
        have q340 : 1 < (t331.length : Int) := of_decide_eq_true (by first | (with_reducible assumption) | assumption)
        obtain ⟨ad340, A340_0, c340_0, e340, hx340_0, hl340_0, hi340_0⟩ := at_L1 (Kd.N_reads' HO_17.out).2.2 1 p340 q340
        obtain rfl : ad339 = ad340 := (by injection e340)
        obtain ⟨ce340, hce340, hMe340, hcc340⟩ := Kd.N_get HO_17.out [] 1 p340 (by first | exact q340 | exact of_decide_eq_true (by first | (with_reducible assumption) | assumption) | (have e_ := (Kd.N_reads' HO_17.out).1; omega))
        obtain ⟨ua340_0, uc340_0, rfl, ul340_0, ge340_0⟩ := Kd.FK_slice_open hMe340
        have hv340_0 := hcc340 0 _ rfl
        rw [Nat.add_zero, show ((Kd.slice 3 (Kd.int .i64))).sz = 1 from rfl, Nat.mul_one] at hv340_0
        replace hv340_0 := Option.some.inj (hv340_0.symm.trans hx340_0)
        injection hv340_0 with hva_ hvn_ hvc_
        rw [hva_] at ge340_0
        rw [hvc_] at ul340_0
        have HL340_0 := Aside0.mk (show Kd.V (Kd.int .i64) 3 _ w.heap.size _ _ (rd_L1 t331 1) from Kd.V_mk ul340_0 ge340_0)
        clear hva_ hvn_ hvc_ ge340_0 ul340_0
        clear hcc340 hce340
        (try simp only [show (1 : Int).toNat = 1 from rfl, Nat.reduceMul, Nat.reduceEqDiff, Go.Addr.add, ↓reduceIte] at hx340_0)
        have qi340 : (1 < t331.length) = True := eq_true (by omega)
        (try rw [show ((1 : Int)).toNat = 1 from rfl] at hx340_0)
        have HR340_0 := Aside0.mk hi340_0
        have HC340_0 := Aside0.mk hl340_0
        clear hi340_0 hl340_0
        replace p340 := eq_true p340
        replace q340 := eq_true q340
        have ea_ := Option.some.inj (hx339_0.symm.trans hx340_0)
        injection ea_ with ea_ en_ ec_
        subst ea_
        subst ec_
        clear en_
        refine start_ (n := 14) (S := fun w' => w'.cell? ⟨ad339.block, ad339.off + 1, none⟩ = some (.slice A339_0 (rd_L1 t331 1).length c339_0) ∧ w'.cell? ⟨ad339.block, ad339.off + 1, none⟩ = some (.slice A339_0 (rd_L1 t331 1).length c339_0)) (ds := [13]) #[false, false, false, false, false, false, false, false, false, false, false, false, false, false] (by kernel_rfl) rfl rfl ⟨hx339_0, hx340_0⟩ (fun hHeld => ?_); refine with_tabW railplanlaw33_MaxplusRaw.tab4 railplanlaw33_MaxplusRaw.bits4 (fun HT_ HW_ => ?_)
        generalize wc.drew = w27 at HO_17 HO_18 HB HL339_0 HL340_0 HR339_0 HR340_0 hx339_0 hx340_0 hHeld ⊢
        refine pure_ (i := 0) (N := some 54) (v := ?_) (a' := ?_) #[true, false, false, false, false, false, false, false, false, false, false, false, false, false] rfl rfl (any_of HT_.out (by kernel_rfl)) (fun _ _ _ h => h) (Or.inl ⟨by rfl, ?_⟩) ?_ ?_
        rotate_left
        ·intro w'
         go_simp
         with_reducible rfl
        rotate_left
        ·simp only [Act.put, List.setIfInBounds_toArray, List.set_cons_zero, List.set_cons_succ, i64_w, i32_w]
         rfl
        refine pure_ (i := 1) (N := some 55) (v := ?_) (a' := ?_) #[true, true, false, false, false, false, false, false, false, false, false, false, false, false] rfl rfl (any_of HT_.out (by kernel_rfl)) (fun _ _ _ h => h) (Or.inl ⟨by rfl, ?_⟩) ?_ ?_
        rotate_left
        ·intro w'
         go_simp
         with_reducible rfl
        rotate_left
        ·simp only [Act.put, List.setIfInBounds_toArray, List.set_cons_zero, List.set_cons_succ, i64_w, i32_w]
         rfl
        refine pure_ (i := 2) (N := some 56) (v := ?_) (a' := ?_) #[true, true, true, false, false, false, false, false, false, false, false, false, false, false] rfl rfl (any_of HT_.out (by kernel_rfl)) (fun _ _ _ h => h) (Or.inl ⟨by rfl, ?_⟩) ?_ ?_
        rotate_left
        ·intro w'
         go_simp
         with_reducible rfl
        rotate_left
        ·simp only [Act.put, List.setIfInBounds_toArray, List.set_cons_zero, List.set_cons_succ, i64_w, i32_w]
         rfl
        refine pure_ (i := 4) (N := some 58) (v := ?_) (a' := ?_) #[true, true, true, false, true, false, false, false, false, false, false, false, false, false] rfl rfl (any_of HT_.out (by kernel_rfl)) (fun _ _ _ h => h) (Or.inl ⟨by rfl, ?_⟩) ?_ ?_
        rotate_left
        ·intro w'
         go_simp
         with_reducible rfl
        rotate_left
        ·simp only [Act.put, List.setIfInBounds_toArray, List.set_cons_zero, List.set_cons_succ, i64_w, i32_w]
         rfl
        refine pure_ (i := 5) (N := some 59) (v := ?_) (a' := ?_) #[true, true, true, false, true, true, false, false, false, false, false, false, false, false] rfl rfl (any_of HT_.out (by kernel_rfl)) (fun _ _ _ h => h) (Or.inl ⟨by rfl, ?_⟩) ?_ ?_
        rotate_left
        ·intro w'
         go_simp
         with_reducible rfl
        rotate_left
        ·simp only [Act.put, List.setIfInBounds_toArray, List.set_cons_zero, List.set_cons_succ, i64_w, i32_w]
         rfl
        refine pure_ (i := 6) (N := some 60) (v := ?_) (a' := ?_) #[true, true, true, false, true, true, true, false, false, false, false, false, false, false] rfl rfl (any_of HT_.out (by kernel_rfl)) (fun _ _ _ h => h) (Or.inl ⟨by rfl, ?_⟩) ?_ ?_
        rotate_left
        ·intro w'
         go_simp
         with_reducible rfl
        rotate_left
        ·simp only [Act.put, List.setIfInBounds_toArray, List.set_cons_zero, List.set_cons_succ, i64_w, i32_w]
         rfl
        refine pure_ (i := 7) (N := some 61) (v := ?_) (a' := ?_) #[true, true, true, false, true, true, true, true, false, false, false, false, false, false] rfl rfl (any_of HT_.out (by kernel_rfl)) (fun _ _ _ h => h) (Or.inl ⟨by rfl, ?_⟩) ?_ ?_
        rotate_left
        ·intro w'
         go_simp
         with_reducible rfl
        rotate_left
        ·simp only [Act.put, List.setIfInBounds_toArray, List.set_cons_zero, List.set_cons_succ, i64_w, i32_w]
         rfl
        refine take_ (i := 3) (N := some 57) (v := ?_) (a' := ?_) #[true, true, true, true, true, true, true, true, false, false, false, false, false, false] rfl rfl (take_ofW HT_.out HW_.out (by kernel_rfl)) (fun _ _ _ h => h) (Or.inl ⟨by rfl, ?_⟩) hHeld ?_ ?_
        rotate_left
        ·rintro w' ⟨s0, s1⟩
         go_simp
         with_reducible rfl
        rotate_left
        ·simp only [Act.put, List.setIfInBounds_toArray, List.set_cons_zero, List.set_cons_succ, i64_w, i32_w]
         rfl
        refine take_ (i := 8) (N := some 62) (v := ?_) (a' := ?_) #[true, true, true, true, true, true, true, true, true, false, false, false, false, false] rfl rfl (take_ofW HT_.out HW_.out (by kernel_rfl)) (fun _ _ _ h => h) (Or.inl ⟨by rfl, ?_⟩) hHeld ?_ ?_
        rotate_left
        ·rintro w' ⟨s0, s1⟩
         go_simp
         with_reducible rfl
        rotate_left
        ·simp only [Act.put, List.setIfInBounds_toArray, List.set_cons_zero, List.set_cons_succ, i64_w, i32_w]
         rfl
        refine pure_ (i := 9) (N := some 63) (v := ?_) (a' := ?_) #[true, true, true, true, true, true, true, true, true, true, false, false, false, false] rfl rfl (any_of HT_.out (by kernel_rfl)) (fun _ _ _ h => h) (Or.inl ⟨by rfl, ?_⟩) ?_ ?_
        rotate_left
        ·intro w'
         go_simp
         with_reducible rfl
        rotate_left
        ·simp only [Act.put, List.setIfInBounds_toArray, List.set_cons_zero, List.set_cons_succ, i64_w, i32_w]
         rfl
        refine one_ (i := 10) (N := some 64) #[true, true, true, true, true, true, true, true, true, true, true, false, false, false] rfl rfl (one_of HT_.out (by kernel_rfl)) (by decide) (fun K hK => ?_)
        refine goes_ Try.func14 (by kernel_rfl) rfl #[.int .i64 (wrap64 (Int.tdiv a4 4)), .int .i64 ((rd_L1 t331 1).length : Int)] (by rfl) rfl rfl (by (try simp only [List.map_toArray, List.map_cons, List.map_nil]); first | done | rfl | (simp only [List.length_drop, List.length_take]; rfl)) ?_
        with_reducible refine (railplankeep_Pick.calls (wrap64 (Int.tdiv a4 4)) ((rd_L1 t331 1).length : Int) t341 _ A23.out).mono ?_
        rintro e w' ⟨rfl, ⟨nd, rfl⟩⟩
        refine ⟨_, rfl, ?_⟩
        have q29 : (t341 : Int) ≤ (((rd_L1 t331 1).length : Int) : Int) := of_decide_eq_true (by first | (with_reducible assumption) | assumption)
        obtain ⟨i029, hi029, _, hsz29, _⟩ := info_parts info3
        have hroom29 : (rd_L1 t331 1).length ≤ c339_0 := HC339_0.out
        have hC29 : Kd.F (Kd.int .i64) _ _ A339_0 (rd_L1 t331 1).length (rd_L1 t331 1) := (Kd.V_at (base := w.heap.size) HL339_0.out).2.2
        have hcut29 := cut_to (P := Try.prog) 22 3 .i64 Try.underlying22 hi029 A339_0 (rd_L1 t331 1).length c339_0 t341 (of_decide_eq_true (by first | (with_reducible assumption) | assumption)) q29 hroom29
        have hr29 := Kd.F_take (m := (t341 : Int).toNat) hC29 (by omega)
        have hy29 : y342.length = (t341 : Int).toNat := (by rw [Ny342.out, List.length_take]; omega)
        rw [← Ny342.out] at hr29
        rw [← hy29] at hcut29
        have HO346 := Aside0.mk (show Kd.V (Kd.int .i64) 3 _ w.heap.size _ (.slice A339_0 y342.length c339_0) y342 from Kd.V_mk (by omega) hr29)
        have HC346 := Aside0.mk (show y342.length ≤ c339_0 from by omega)
        clear hr29 hC29 hroom29 hi029 hsz29
        have KY29 := Aside0.mk hy29
        clear hy29
        replace q29 := eq_true q29
        have p26 : 0 ≤ (1 : Int) := (by omega)
        have q26 : (1 : Int) < ((t331.length : Int) : Int) := of_decide_eq_true (by first | (with_reducible assumption) | assumption)
        have qi26 : (1 < t331.length) = True := eq_true (by omega)
        obtain ⟨go26, co26, eo26, gb26, gl26, cl26, HG26⟩ := Kd.N_form HO_17.out (by omega)
        (first | cases eo26 | (injection eo26 with ea_ en_ ec_; (first | subst ea_ | (injection ea_ with ea_; subst ea_)); subst ec_; clear en_))
        have GB26 := Aside0.mk gb26
        have GG26 := Aside0.mk HG26
        clear gb26 gl26 HG26
        (first | simp only [add_plain] at hx339_0 | skip)
        (first | simp only [add_plain] at hx340_0 | skip)
        obtain ⟨ce26, hcl26, hM26, hcc26, hfr26⟩ := Kd.N_elem HO_17.out [] (1 : Int) p26 q26
        obtain ⟨ua26_0, uc26_0, rfl, ul26_0, ge26_0⟩ := Kd.FK_slice_open hM26
        have hx26_0 := hcc26 0 _ rfl
        have hf26_0 := hfr26 0
        (try simp only [show ((Kd.slice 3 (Kd.int .i64))).sz = 1 from rfl, Nat.mul_one, Nat.add_zero] at hx26_0)
        (try simp only [show ((Kd.slice 3 (Kd.int .i64))).sz = 1 from rfl, Nat.mul_one, Nat.add_zero] at hf26_0)
        (try clear hM26); clear hcl26 hcc26 hfr26
        (try rw [show ((1 : Int)).toNat = 1 from rfl] at hx26_0)
        (try simp only [Nat.reduceMul, Nat.zero_mul, Nat.zero_add, Nat.reduceAdd] at hx26_0)
        (try rw [show ((1 : Int)).toNat = 1 from rfl] at hf26_0)
        (try simp only [Nat.reduceMul, Nat.zero_mul, Nat.zero_add, Nat.reduceAdd] at hf26_0)
        replace p26 := eq_true p26
        replace q26 := eq_true q26
        have HX30 := Aside0.mk (show Kd.N (Kd.slice 3 (Kd.int .i64)) 22 _ w.heap.size (fun k_ => some k_ ≠ (v336 : Value).ownBlock) (.slice (some ⟨go26, 0, none⟩) t331.length co28) t331 from (Kd.N_mono (HO_17.out) (fun k_ hk => hk)))
        obtain ⟨ce30, hcl30, hM30, hcc30, hfr30⟩ := Kd.N_elem HX30.out [] (1 : Int) (by omega) (by have h_ : (1 : Int) < ((t331.length : Int) : Int) := of_decide_eq_true (by first | (with_reducible assumption) | assumption); first | exact h_ | (have e_ := (Kd.N_reads' HO_17.out).1; omega) | simpa using h_)
        obtain ⟨ua30_0, uc30_0, rfl, ul30_0, ge30_0⟩ := Kd.FK_slice_open hM30
        have HP30 := (Kd.N_seg HX30.out (1 : Int) (by omega) (by have h_ : (1 : Int) < ((t331.length : Int) : Int) := of_decide_eq_true (by first | (with_reducible assumption) | assumption); first | exact h_ | (have e_ := (Kd.N_reads' HO_17.out).1; omega) | simpa using h_) (seg := [.slice A339_0 y342.length c339_0]) (j := 0) hcl30 hcc30 (show 1 ≤ 1 from by decide) (x' := y342) (Kd.FK_slice_mk (Kd.V_reads' (Kd.V_mono (ok' := (fun k_ => ((fun k_ => some k_ ≠ (v336 : Value).ownBlock)) k_ ∧ k_ ≠ go26)) (HO346.out) (fun k_ hk => ⟨hk.1, fun e_ => (hk.2) (by rw [e_]; rfl)⟩))).2.1 (Kd.V_F (Kd.V_mono (ok' := (fun k_ => ((fun k_ => some k_ ≠ (v336 : Value).ownBlock)) k_ ∧ k_ ≠ go26)) (HO346.out) (fun k_ hk => ⟨hk.1, fun e_ => (hk.2) (by rw [e_]; rfl)⟩)))) (fun _ hk => hk)).1
        (try simp only [show ((Kd.slice 3 (Kd.int .i64))).sz = 1 from rfl, Nat.mul_one, Nat.add_zero] at HP30)
        rw [← Ny347.out] at HP30
        have HQ30 := Aside0.mk HP30
        clear hcl30 hcc30 hfr30 hM30 HP30
        refine hK.out _ _ ⟨hHeld.1, hHeld.2⟩ (fun hHeld => ?_)
        clear hK K
        refine norm_ (a' := ?_) ?_ ?_
        rotate_left
        ·show Act.put _ (some 64) _ = _
         simp only [Act.put, List.setIfInBounds_toArray, List.set_cons_zero, List.set_cons_succ, i64_w, i32_w]
         rfl
        refine pure_ (i := 11) (N := some 65) (v := ?_) (a' := ?_) #[true, true, true, true, true, true, true, true, true, true, true, true, false, false] rfl rfl (any_of HT_.out (by kernel_rfl)) (fun _ _ _ h => h) (Or.inl ⟨by rfl, ?_⟩) ?_ ?_
        rotate_left
        ·intro w'
         go_simp
         with_reducible rfl
        rotate_left
        ·simp only [Act.put, List.setIfInBounds_toArray, List.set_cons_zero, List.set_cons_succ, i64_w, i32_w]
         rfl
        refine pure_ (i := 12) (N := some 66) (v := ?_) (a' := ?_) #[true, true, true, true, true, true, true, true, true, true, true, true, true, false] rfl rfl (any_of HT_.out (by kernel_rfl)) (fun _ _ _ h => h) (Or.inl ⟨by rfl, ?_⟩) ?_ ?_
        rotate_left
        ·intro w'
         go_simp
         with_reducible rfl
        rotate_left
        ·simp only [Act.put, List.setIfInBounds_toArray, List.set_cons_zero, List.set_cons_succ, i64_w, i32_w]
         rfl
        refine last_ (i := 13) (N := none) #[true, true, true, true, true, true, true, true, true, true, true, true, true, true] rfl rfl (one_of HT_.out (by kernel_rfl)) (by decide) (fun K hK => ?_)
        refine skip_ (w1 := ?_) (by rfl) rfl ?_ ?_
        rotate_left
        ·go_simp
         rfl
        refine hK.out _ _ ?_
        clear hK K
        refine done_ (done_of HT_.out (by kernel_rfl)) ?_
        try go_wp2
        go_meet
        case rel => exact ⟨_, (y347), H', ⟨by have := HJ12.out; first | omega | exact Nat.le_refl _⟩, ⟨by (with_reducible repeat (first | apply Kd.N_alloc | apply Kd.N_drewN | apply Kd.N_drew)); exact HQ30.out⟩, ⟨by (with_reducible repeat (first | apply Kd.N_alloc | apply Kd.N_drewN | apply Kd.N_drew)); exact Kd.N_mono (Kd.N_far (p := ⟨go26, 1, none⟩) (Kd.N_mono HO_18.out (fun k_ hk => (⟨hk, fun e_ => hk (by rw [e_]; rfl)⟩ : _ ∧ k_ ≠ go26))) (fun _ hk => hk.2) (.slice A339_0 y342.length c339_0)) (fun _ hk => hk.1)⟩, ⟨by repeat (first | (with_reducible first | exact HB.out | apply below_alloc | apply pw_below_drewN | apply below_drew1 | refine below_set ?_ GB26.out) | exact HB.out)⟩⟩
       ·rw [if_neg c25] at H
        exact absurd H (by simp)
      ·rw [if_neg c24] at H
       exact absurd H (by simp)
     ·rw [if_neg c22] at H
      exact absurd H (by simp)
    ·replace c21 := Bool.eq_false_iff.mpr c21
     subst c21
     have H1 : (railplanlaw33_MaxplusRaw.j1 kj12 l2 a5 a6 a7 t331 t335) = some r := by rw [if_neg (show ¬ (false = true) by decide)] at H; exact H
     clear H
     have H := H1
     clear H1
     have H' := Aside0.mk H
     clear H
     go_wp2
     go_meet
     case rel => exact ⟨_, (t331), H', ⟨by have := HJ12.out; first | omega | exact Nat.le_refl _⟩, ⟨by (with_reducible repeat (first | apply Kd.N_alloc | apply Kd.N_drewN | apply Kd.N_drew)); exact HO_17.out⟩, ⟨by (with_reducible repeat (first | apply Kd.N_alloc | apply Kd.N_drewN | apply Kd.N_drew)); exact HO_18.out⟩, ⟨by repeat (first | (with_reducible first | exact HB.out | apply below_alloc | apply pw_below_drewN | apply below_drew1) | exact HB.out)⟩⟩
   case rest =>
    clear HC20
    try clear c1
    try clear c2
    try clear p2
    try clear q2
    try clear hx2
    try clear qi2
    try clear c3
    try clear p3
    try clear q3
    try clear hx3
    try clear qi3
    try clear p6
    try clear c7
    try clear c14
    try clear c16
    try clear c16b0
    try clear c16b1
    try clear c21
    try clear c22
    try clear c22b0
    try clear c22b1
    try clear c24
    try clear c24b0
    try clear c24b1
    try clear c25
    try clear c25b0
    try clear c25b1
    try clear c26
    try clear p26
    try clear q26
    try clear hx26
    try clear qi26
    try clear hf26
    try clear q29
    try clear c30
    try clear hx26_0
    try clear hx339_0
    try clear hx340_0
    try clear p2
    try clear p26
    try clear p339
    try clear p340
    try clear p6
    try clear q26
    try clear q29
    try clear q339
    try clear q340
    obtain ⟨kq, x17_19, HA, HJ19, HO_17, HO_18, HB⟩ := hcut
    cases kq with
    | zero => exact absurd HA.out (by simp [railplanlaw33_MaxplusRaw.j1])
    | succ kj19 =>
     have H := HA.out
     clear HA
     simp only [railplanlaw33_MaxplusRaw.j1] at H
     replace H := Option.bind_eq_some_iff.mp H
     obtain ⟨⟨t348, t349⟩, A310, H⟩ := H
     replace H : ((railplanref30_Mul.f kj19 x17_19 t335).bind fun bt352 => ((maxplus_Apply.f kj19 x17_19 l2).bind fun bt356 => ((railplanref30_Apply.f kj19 x17_19 l2).bind fun bt360 => ((maxplus_Power.f kj19 x17_19 (Int.tmod a5 20)).bind fun bt364 => ((railplanref30_Power.f kj19 x17_19 (Int.tmod a5 20)).bind fun bt368 => ((maxplus_Recover.f kj19 x17_19 l2 a6 (Int.tmod a7 50)).bind fun bt372 => ((railplanref30_Recover.f kj19 x17_19 l2 a6 (Int.tmod a7 50)).bind fun bt374 => ((railplanlaw33_awake.f kj19).bind fun t376 => (if t376 = true then ((maxplus_Check.f kj19 x17_19).bind fun t377 => ((railplanref30_CheckMatrix.f kj19 x17_19).bind fun t378 => (if (t377 == t378) = true then ((maxplus_Vector.f kj19 (x17_19.length : Int) l2).bind fun t379 => ((railplanref30_Vector.f kj19 (x17_19.length : Int) l2).bind fun t380 => (if (t379 == t380) = true then ((railplankeep_SameLists_int.f kj19 t348 bt352.1).bind fun t381 => (if t381 = true then (if t349 = bt352.2 then ((railplankeep_Same_int.f kj19 bt356.1 bt360.1).bind fun t382 => (if t382 = true then (if bt356.2 = bt360.2 then ((railplankeep_SameLists_int.f kj19 bt364.1 bt368.1).bind fun t383 => (if t383 = true then (if bt364.2 = bt368.2 then (if bt372.1 = bt374.1 then (some (bt372.2 == bt374.2)) else (some false)) else (some false)) else (some false))) else (some false)) else (some false))) else (some false)) else (some false))) else (some false)))) else (some false)))) else (some false)))))))))) = some r := H
     have A31 := Aside0.mk A310
     clear A310
     replace H := Option.bind_eq_some_iff.mp H
     obtain ⟨⟨t352, t353⟩, A320, H⟩ := H
     replace H : ((maxplus_Apply.f kj19 x17_19 l2).bind fun bt356 => ((railplanref30_Apply.f kj19 x17_19 l2).bind fun bt360 => ((maxplus_Power.f kj19 x17_19 (Int.tmod a5 20)).bind fun bt364 => ((railplanref30_Power.f kj19 x17_19 (Int.tmod a5 20)).bind fun bt368 => ((maxplus_Recover.f kj19 x17_19 l2 a6 (Int.tmod a7 50)).bind fun bt372 => ((railplanref30_Recover.f kj19 x17_19 l2 a6 (Int.tmod a7 50)).bind fun bt374 => ((railplanlaw33_awake.f kj19).bind fun t376 => (if t376 = true then ((maxplus_Check.f kj19 x17_19).bind fun t377 => ((railplanref30_CheckMatrix.f kj19 x17_19).bind fun t378 => (if (t377 == t378) = true then ((maxplus_Vector.f kj19 (x17_19.length : Int) l2).bind fun t379 => ((railplanref30_Vector.f kj19 (x17_19.length : Int) l2).bind fun t380 => (if (t379 == t380) = true then ((railplankeep_SameLists_int.f kj19 t348 t352).bind fun t381 => (if t381 = true then (if t349 = t353 then ((railplankeep_Same_int.f kj19 bt356.1 bt360.1).bind fun t382 => (if t382 = true then (if bt356.2 = bt360.2 then ((railplankeep_SameLists_int.f kj19 bt364.1 bt368.1).bind fun t383 => (if t383 = true then (if bt364.2 = bt368.2 then (if bt372.1 = bt374.1 then (some (bt372.2 == bt374.2)) else (some false)) else (some false)) else (some false))) else (some false)) else (some false))) else (some false)) else (some false))) else (some false)))) else (some false)))) else (some false))))))))) = some r := H
     have A32 := Aside0.mk A320
     clear A320
     replace H := Option.bind_eq_some_iff.mp H
     obtain ⟨⟨t356, t357⟩, A330, H⟩ := H
     replace H : ((railplanref30_Apply.f kj19 x17_19 l2).bind fun bt360 => ((maxplus_Power.f kj19 x17_19 (Int.tmod a5 20)).bind fun bt364 => ((railplanref30_Power.f kj19 x17_19 (Int.tmod a5 20)).bind fun bt368 => ((maxplus_Recover.f kj19 x17_19 l2 a6 (Int.tmod a7 50)).bind fun bt372 => ((railplanref30_Recover.f kj19 x17_19 l2 a6 (Int.tmod a7 50)).bind fun bt374 => ((railplanlaw33_awake.f kj19).bind fun t376 => (if t376 = true then ((maxplus_Check.f kj19 x17_19).bind fun t377 => ((railplanref30_CheckMatrix.f kj19 x17_19).bind fun t378 => (if (t377 == t378) = true then ((maxplus_Vector.f kj19 (x17_19.length : Int) l2).bind fun t379 => ((railplanref30_Vector.f kj19 (x17_19.length : Int) l2).bind fun t380 => (if (t379 == t380) = true then ((railplankeep_SameLists_int.f kj19 t348 t352).bind fun t381 => (if t381 = true then (if t349 = t353 then ((railplankeep_Same_int.f kj19 t356 bt360.1).bind fun t382 => (if t382 = true then (if t357 = bt360.2 then ((railplankeep_SameLists_int.f kj19 bt364.1 bt368.1).bind fun t383 => (if t383 = true then (if bt364.2 = bt368.2 then (if bt372.1 = bt374.1 then (some (bt372.2 == bt374.2)) else (some false)) else (some false)) else (some false))) else (some false)) else (some false))) else (some false)) else (some false))) else (some false)))) else (some false)))) else (some false)))))))) = some r := H
     have A33 := Aside0.mk A330
     clear A330
     replace H := Option.bind_eq_some_iff.mp H
     obtain ⟨⟨t360, t361⟩, A340, H⟩ := H
     replace H : ((maxplus_Power.f kj19 x17_19 (Int.tmod a5 20)).bind fun bt364 => ((railplanref30_Power.f kj19 x17_19 (Int.tmod a5 20)).bind fun bt368 => ((maxplus_Recover.f kj19 x17_19 l2 a6 (Int.tmod a7 50)).bind fun bt372 => ((railplanref30_Recover.f kj19 x17_19 l2 a6 (Int.tmod a7 50)).bind fun bt374 => ((railplanlaw33_awake.f kj19).bind fun t376 => (if t376 = true then ((maxplus_Check.f kj19 x17_19).bind fun t377 => ((railplanref30_CheckMatrix.f kj19 x17_19).bind fun t378 => (if (t377 == t378) = true then ((maxplus_Vector.f kj19 (x17_19.length : Int) l2).bind fun t379 => ((railplanref30_Vector.f kj19 (x17_19.length : Int) l2).bind fun t380 => (if (t379 == t380) = true then ((railplankeep_SameLists_int.f kj19 t348 t352).bind fun t381 => (if t381 = true then (if t349 = t353 then ((railplankeep_Same_int.f kj19 t356 t360).bind fun t382 => (if t382 = true then (if t357 = t361 then ((railplankeep_SameLists_int.f kj19 bt364.1 bt368.1).bind fun t383 => (if t383 = true then (if bt364.2 = bt368.2 then (if bt372.1 = bt374.1 then (some (bt372.2 == bt374.2)) else (some false)) else (some false)) else (some false))) else (some false)) else (some false))) else (some false)) else (some false))) else (some false)))) else (some false)))) else (some false))))))) = some r := H
     have A34 := Aside0.mk A340
     clear A340
     replace H := Option.bind_eq_some_iff.mp H
     obtain ⟨⟨t364, t365⟩, A350, H⟩ := H
     replace H : ((railplanref30_Power.f kj19 x17_19 (Int.tmod a5 20)).bind fun bt368 => ((maxplus_Recover.f kj19 x17_19 l2 a6 (Int.tmod a7 50)).bind fun bt372 => ((railplanref30_Recover.f kj19 x17_19 l2 a6 (Int.tmod a7 50)).bind fun bt374 => ((railplanlaw33_awake.f kj19).bind fun t376 => (if t376 = true then ((maxplus_Check.f kj19 x17_19).bind fun t377 => ((railplanref30_CheckMatrix.f kj19 x17_19).bind fun t378 => (if (t377 == t378) = true then ((maxplus_Vector.f kj19 (x17_19.length : Int) l2).bind fun t379 => ((railplanref30_Vector.f kj19 (x17_19.length : Int) l2).bind fun t380 => (if (t379 == t380) = true then ((railplankeep_SameLists_int.f kj19 t348 t352).bind fun t381 => (if t381 = true then (if t349 = t353 then ((railplankeep_Same_int.f kj19 t356 t360).bind fun t382 => (if t382 = true then (if t357 = t361 then ((railplankeep_SameLists_int.f kj19 t364 bt368.1).bind fun t383 => (if t383 = true then (if t365 = bt368.2 then (if bt372.1 = bt374.1 then (some (bt372.2 == bt374.2)) else (some false)) else (some false)) else (some false))) else (some false)) else (some false))) else (some false)) else (some false))) else (some false)))) else (some false)))) else (some false)))))) = some r := H
     have A35 := Aside0.mk A350
     clear A350
     replace H := Option.bind_eq_some_iff.mp H
     obtain ⟨⟨t368, t369⟩, A360, H⟩ := H
     replace H : ((maxplus_Recover.f kj19 x17_19 l2 a6 (Int.tmod a7 50)).bind fun bt372 => ((railplanref30_Recover.f kj19 x17_19 l2 a6 (Int.tmod a7 50)).bind fun bt374 => ((railplanlaw33_awake.f kj19).bind fun t376 => (if t376 = true then ((maxplus_Check.f kj19 x17_19).bind fun t377 => ((railplanref30_CheckMatrix.f kj19 x17_19).bind fun t378 => (if (t377 == t378) = true then ((maxplus_Vector.f kj19 (x17_19.length : Int) l2).bind fun t379 => ((railplanref30_Vector.f kj19 (x17_19.length : Int) l2).bind fun t380 => (if (t379 == t380) = true then ((railplankeep_SameLists_int.f kj19 t348 t352).bind fun t381 => (if t381 = true then (if t349 = t353 then ((railplankeep_Same_int.f kj19 t356 t360).bind fun t382 => (if t382 = true then (if t357 = t361 then ((railplankeep_SameLists_int.f kj19 t364 t368).bind fun t383 => (if t383 = true then (if t365 = t369 then (if bt372.1 = bt374.1 then (some (bt372.2 == bt374.2)) else (some false)) else (some false)) else (some false))) else (some false)) else (some false))) else (some false)) else (some false))) else (some false)))) else (some false)))) else (some false))))) = some r := H
     have A36 := Aside0.mk A360
     clear A360
     replace H := Option.bind_eq_some_iff.mp H
     obtain ⟨⟨t372, t373⟩, A370, H⟩ := H
     replace H : ((railplanref30_Recover.f kj19 x17_19 l2 a6 (Int.tmod a7 50)).bind fun bt374 => ((railplanlaw33_awake.f kj19).bind fun t376 => (if t376 = true then ((maxplus_Check.f kj19 x17_19).bind fun t377 => ((railplanref30_CheckMatrix.f kj19 x17_19).bind fun t378 => (if (t377 == t378) = true then ((maxplus_Vector.f kj19 (x17_19.length : Int) l2).bind fun t379 => ((railplanref30_Vector.f kj19 (x17_19.length : Int) l2).bind fun t380 => (if (t379 == t380) = true then ((railplankeep_SameLists_int.f kj19 t348 t352).bind fun t381 => (if t381 = true then (if t349 = t353 then ((railplankeep_Same_int.f kj19 t356 t360).bind fun t382 => (if t382 = true then (if t357 = t361 then ((railplankeep_SameLists_int.f kj19 t364 t368).bind fun t383 => (if t383 = true then (if t365 = t369 then (if t372 = bt374.1 then (some (t373 == bt374.2)) else (some false)) else (some false)) else (some false))) else (some false)) else (some false))) else (some false)) else (some false))) else (some false)))) else (some false)))) else (some false)))) = some r := H
     have A37 := Aside0.mk A370
     clear A370
     replace H := Option.bind_eq_some_iff.mp H
     obtain ⟨⟨t374, t375⟩, A380, H⟩ := H
     replace H : ((railplanlaw33_awake.f kj19).bind fun t376 => (if t376 = true then ((maxplus_Check.f kj19 x17_19).bind fun t377 => ((railplanref30_CheckMatrix.f kj19 x17_19).bind fun t378 => (if (t377 == t378) = true then ((maxplus_Vector.f kj19 (x17_19.length : Int) l2).bind fun t379 => ((railplanref30_Vector.f kj19 (x17_19.length : Int) l2).bind fun t380 => (if (t379 == t380) = true then ((railplankeep_SameLists_int.f kj19 t348 t352).bind fun t381 => (if t381 = true then (if t349 = t353 then ((railplankeep_Same_int.f kj19 t356 t360).bind fun t382 => (if t382 = true then (if t357 = t361 then ((railplankeep_SameLists_int.f kj19 t364 t368).bind fun t383 => (if t383 = true then (if t365 = t369 then (if t372 = t374 then (some (t373 == t375)) else (some false)) else (some false)) else (some false))) else (some false)) else (some false))) else (some false)) else (some false))) else (some false)))) else (some false)))) else (some false))) = some r := H
     have A38 := Aside0.mk A380
     clear A380
     replace H := Option.bind_eq_some_iff.mp H
     obtain ⟨t376, A390, H⟩ := H
     replace H : (if t376 = true then ((maxplus_Check.f kj19 x17_19).bind fun t377 => ((railplanref30_CheckMatrix.f kj19 x17_19).bind fun t378 => (if (t377 == t378) = true then ((maxplus_Vector.f kj19 (x17_19.length : Int) l2).bind fun t379 => ((railplanref30_Vector.f kj19 (x17_19.length : Int) l2).bind fun t380 => (if (t379 == t380) = true then ((railplankeep_SameLists_int.f kj19 t348 t352).bind fun t381 => (if t381 = true then (if t349 = t353 then ((railplankeep_Same_int.f kj19 t356 t360).bind fun t382 => (if t382 = true then (if t357 = t361 then ((railplankeep_SameLists_int.f kj19 t364 t368).bind fun t383 => (if t383 = true then (if t365 = t369 then (if t372 = t374 then (some (t373 == t375)) else (some false)) else (some false)) else (some false))) else (some false)) else (some false))) else (some false)) else (some false))) else (some false)))) else (some false)))) else (some false)) = some r := H
     have A39 := Aside0.mk A390
     clear A390
     by_cases c40 : t376 = true
     ·subst c40
      have H1 : ((maxplus_Check.f kj19 x17_19).bind fun t377 => ((railplanref30_CheckMatrix.f kj19 x17_19).bind fun t378 => (if (t377 == t378) = true then ((maxplus_Vector.f kj19 (x17_19.length : Int) l2).bind fun t379 => ((railplanref30_Vector.f kj19 (x17_19.length : Int) l2).bind fun t380 => (if (t379 == t380) = true then ((railplankeep_SameLists_int.f kj19 t348 t352).bind fun t381 => (if t381 = true then (if t349 = t353 then ((railplankeep_Same_int.f kj19 t356 t360).bind fun t382 => (if t382 = true then (if t357 = t361 then ((railplankeep_SameLists_int.f kj19 t364 t368).bind fun t383 => (if t383 = true then (if t365 = t369 then (if t372 = t374 then (some (t373 == t375)) else (some false)) else (some false)) else (some false))) else (some false)) else (some false))) else (some false)) else (some false))) else (some false)))) else (some false)))) = some r := by rw [if_pos rfl] at H; exact H
      clear H
      have H := H1
      clear H1
      replace H := Option.bind_eq_some_iff.mp H
      obtain ⟨t377, A410, H⟩ := H
      replace H : ((railplanref30_CheckMatrix.f kj19 x17_19).bind fun t378 => (if (t377 == t378) = true then ((maxplus_Vector.f kj19 (x17_19.length : Int) l2).bind fun t379 => ((railplanref30_Vector.f kj19 (x17_19.length : Int) l2).bind fun t380 => (if (t379 == t380) = true then ((railplankeep_SameLists_int.f kj19 t348 t352).bind fun t381 => (if t381 = true then (if t349 = t353 then ((railplankeep_Same_int.f kj19 t356 t360).bind fun t382 => (if t382 = true then (if t357 = t361 then ((railplankeep_SameLists_int.f kj19 t364 t368).bind fun t383 => (if t383 = true then (if t365 = t369 then (if t372 = t374 then (some (t373 == t375)) else (some false)) else (some false)) else (some false))) else (some false)) else (some false))) else (some false)) else (some false))) else (some false)))) else (some false))) = some r := H
      have A41 := Aside0.mk A410
      clear A410
      replace H := Option.bind_eq_some_iff.mp H
      obtain ⟨t378, A420, H⟩ := H
      replace H : (if (t377 == t378) = true then ((maxplus_Vector.f kj19 (x17_19.length : Int) l2).bind fun t379 => ((railplanref30_Vector.f kj19 (x17_19.length : Int) l2).bind fun t380 => (if (t379 == t380) = true then ((railplankeep_SameLists_int.f kj19 t348 t352).bind fun t381 => (if t381 = true then (if t349 = t353 then ((railplankeep_Same_int.f kj19 t356 t360).bind fun t382 => (if t382 = true then (if t357 = t361 then ((railplankeep_SameLists_int.f kj19 t364 t368).bind fun t383 => (if t383 = true then (if t365 = t369 then (if t372 = t374 then (some (t373 == t375)) else (some false)) else (some false)) else (some false))) else (some false)) else (some false))) else (some false)) else (some false))) else (some false)))) else (some false)) = some r := H
      have A42 := Aside0.mk A420
      clear A420
      by_cases c43 : (t377 == t378) = true
      ·rw [if_pos c43] at H
       have c43b0 : (t377 == t378) = true := c43
       (try (have c43b1 : decide (t377 = t378) = true := by simpa using c43))
       (try (have c43b2 : (t377 == t378) = true := by simpa using c43))
       clear c43
       replace H := Option.bind_eq_some_iff.mp H
       obtain ⟨t379, A440, H⟩ := H
       replace H : ((railplanref30_Vector.f kj19 (x17_19.length : Int) l2).bind fun t380 => (if (t379 == t380) = true then ((railplankeep_SameLists_int.f kj19 t348 t352).bind fun t381 => (if t381 = true then (if t349 = t353 then ((railplankeep_Same_int.f kj19 t356 t360).bind fun t382 => (if t382 = true then (if t357 = t361 then ((railplankeep_SameLists_int.f kj19 t364 t368).bind fun t383 => (if t383 = true then (if t365 = t369 then (if t372 = t374 then (some (t373 == t375)) else (some false)) else (some false)) else (some false))) else (some false)) else (some false))) else (some false)) else (some false))) else (some false))) = some r := H
       have A44 := Aside0.mk A440
       clear A440
       replace H := Option.bind_eq_some_iff.mp H
       obtain ⟨t380, A450, H⟩ := H
       replace H : (if (t379 == t380) = true then ((railplankeep_SameLists_int.f kj19 t348 t352).bind fun t381 => (if t381 = true then (if t349 = t353 then ((railplankeep_Same_int.f kj19 t356 t360).bind fun t382 => (if t382 = true then (if t357 = t361 then ((railplankeep_SameLists_int.f kj19 t364 t368).bind fun t383 => (if t383 = true then (if t365 = t369 then (if t372 = t374 then (some (t373 == t375)) else (some false)) else (some false)) else (some false))) else (some false)) else (some false))) else (some false)) else (some false))) else (some false)) = some r := H
       have A45 := Aside0.mk A450
       clear A450
       by_cases c46 : (t379 == t380) = true
       ·rw [if_pos c46] at H
        have c46b0 : (t379 == t380) = true := c46
        (try (have c46b1 : decide (t379 = t380) = true := by simpa using c46))
        (try (have c46b2 : (t379 == t380) = true := by simpa using c46))
        clear c46
        replace H := Option.bind_eq_some_iff.mp H
        obtain ⟨t381, A470, H⟩ := H
        replace H : (if t381 = true then (if t349 = t353 then ((railplankeep_Same_int.f kj19 t356 t360).bind fun t382 => (if t382 = true then (if t357 = t361 then ((railplankeep_SameLists_int.f kj19 t364 t368).bind fun t383 => (if t383 = true then (if t365 = t369 then (if t372 = t374 then (some (t373 == t375)) else (some false)) else (some false)) else (some false))) else (some false)) else (some false))) else (some false)) else (some false)) = some r := H
        have A47 := Aside0.mk A470
        clear A470
        by_cases c48 : t381 = true
        ·subst c48
         have H1 : (if t349 = t353 then ((railplankeep_Same_int.f kj19 t356 t360).bind fun t382 => (if t382 = true then (if t357 = t361 then ((railplankeep_SameLists_int.f kj19 t364 t368).bind fun t383 => (if t383 = true then (if t365 = t369 then (if t372 = t374 then (some (t373 == t375)) else (some false)) else (some false)) else (some false))) else (some false)) else (some false))) else (some false)) = some r := by rw [if_pos rfl] at H; exact H
         clear H
         have H := H1
         clear H1
         by_cases c49 : t349 = t353
         ·rw [if_pos c49] at H
          have c49b0 : (t349 == t353) = true := beq_iff_eq.mpr c49
          have c49b1 : (t349 != t353) = false := bne_eq_false_iff_eq.mpr c49
          clear c49
          replace H := Option.bind_eq_some_iff.mp H
          obtain ⟨t382, A500, H⟩ := H
          replace H : (if t382 = true then (if t357 = t361 then ((railplankeep_SameLists_int.f kj19 t364 t368).bind fun t383 => (if t383 = true then (if t365 = t369 then (if t372 = t374 then (some (t373 == t375)) else (some false)) else (some false)) else (some false))) else (some false)) else (some false)) = some r := H
          have A50 := Aside0.mk A500
          clear A500
          by_cases c51 : t382 = true
          ·subst c51
           have H1 : (if t357 = t361 then ((railplankeep_SameLists_int.f kj19 t364 t368).bind fun t383 => (if t383 = true then (if t365 = t369 then (if t372 = t374 then (some (t373 == t375)) else (some false)) else (some false)) else (some false))) else (some false)) = some r := by rw [if_pos rfl] at H; exact H
           clear H
           have H := H1
           clear H1
           by_cases c52 : t357 = t361
           ·rw [if_pos c52] at H
            have c52b0 : (t357 == t361) = true := beq_iff_eq.mpr c52
            have c52b1 : (t357 != t361) = false := bne_eq_false_iff_eq.mpr c52
            clear c52
            replace H := Option.bind_eq_some_iff.mp H
            obtain ⟨t383, A530, H⟩ := H
            replace H : (if t383 = true then (if t365 = t369 then (if t372 = t374 then (some (t373 == t375)) else (some false)) else (some false)) else (some false)) = some r := H
            have A53 := Aside0.mk A530
            clear A530
            by_cases c54 : t383 = true
            ·subst c54
             have H1 : (if t365 = t369 then (if t372 = t374 then (some (t373 == t375)) else (some false)) else (some false)) = some r := by rw [if_pos rfl] at H; exact H
             clear H
             have H := H1
             clear H1
             by_cases c55 : t365 = t369
             ·rw [if_pos c55] at H
              have c55b0 : (t365 == t369) = true := beq_iff_eq.mpr c55
              have c55b1 : (t365 != t369) = false := bne_eq_false_iff_eq.mpr c55
              clear c55
              by_cases c56 : t372 = t374
              ·rw [if_pos c56] at H
               have c56b0 : (t372 == t374) = true := beq_iff_eq.mpr c56
               have c56b1 : (t372 != t374) = false := bne_eq_false_iff_eq.mpr c56
               clear c56
               obtain rfl := Option.some.inj H
               obtain ⟨Ao57, co57, eo57⟩ := Kd.N_slice HO_17.out
               subst eo57
               obtain ⟨Ao58, co58, eo58⟩ := Kd.N_slice HO_18.out
               subst eo58
               go_wp2_with (first | ((with_reducible refine gate_callee (f := 16) rfl ?_); refine goesL_ (some 70) rfl rfl Try.func16 (by kernel_rfl) rfl #[.slice Ao57 x17_19.length co57, .slice Ao58 t335.length co58] rfl (by (try simp only [List.map_toArray, List.map_cons, List.map_nil]); first | done | rfl | (simp only [List.length_drop, List.length_take]; rfl)) ?_; (with_reducible refine (maxplus_Mul.calls kj19 _ _ x17_19 _ _ t335 t348 t349 _ ?side1 ?side2 ?side3 ?side4 A31.out).mono ?_); (case side1 => repeat (first | exact (Kd.N_reads' HO_17.out).2.2 | (with_reducible refine Kd.C_alloc ?_ _) | (with_reducible refine Kd.C_drewN ?_ _) | (with_reducible refine Kd.C_drew ?_))); (case side2 => exact (Kd.N_reads' HO_17.out).2.1); (case side3 => repeat (first | exact (Kd.N_reads' HO_18.out).2.2 | (with_reducible refine Kd.C_alloc ?_ _) | (with_reducible refine Kd.C_drewN ?_ _) | (with_reducible refine Kd.C_drew ?_))); (case side4 => exact (Kd.N_reads' HO_18.out).2.1); rintro e w59 ⟨v350, rfl, ho0, hb⟩; refine ⟨_, rfl, ?_⟩; have n0_ := Aside0.mk (Kd.N_elder' (by (with_reducible repeat (first | apply Kd.N_alloc | apply Kd.N_drewN | apply Kd.N_drew)); exact HO_17.out) (by first | exact Kd.N_base ho0 | exact Kd.S_base ho0 | exact Kd.R_base ho0 | exact Kd.Q_base ho0) hb); have n1_ := Aside0.mk (Kd.N_elder' (by (with_reducible repeat (first | apply Kd.N_alloc | apply Kd.N_drewN | apply Kd.N_drew)); exact HO_18.out) (by first | exact Kd.N_base ho0 | exact Kd.S_base ho0 | exact Kd.R_base ho0 | exact Kd.Q_base ho0) hb); have n2_ := Aside0.mk (Kd.N_lower (Kd.N_mono (ok' := fun k_ => some k_ ≠ (.slice Ao57 x17_19.length co57 : Value).ownBlock ∧ some k_ ≠ (.slice Ao58 t335.length co58 : Value).ownBlock) (Kd.S_N (Kd.S_bound ho0)) (fun k_ hk_ => ⟨(Kd.fresh' (Kd.N_lt (by (with_reducible repeat (first | apply Kd.N_alloc | apply Kd.N_drewN | apply Kd.N_drew)); exact HO_17.out)) k_ hk_.2.1), (Kd.fresh' (Kd.N_lt (by (with_reducible repeat (first | apply Kd.N_alloc | apply Kd.N_drewN | apply Kd.N_drew)); exact HO_18.out)) k_ hk_.2.1)⟩)) (below_size (by repeat (first | (with_reducible first | exact HB.out | apply below_alloc | apply pw_below_drewN | apply below_drew1) | exact HB.out)))); have n3_ := Aside0.mk (below_step (by repeat (first | (with_reducible first | exact HB.out | apply below_alloc | apply pw_below_drewN | apply below_drew1) | exact HB.out)) hb); clear HO_17; clear HO_18; clear HB; have HO_17 := n0_; have HO_18 := n1_; have HO351 := n2_; have HB := n3_; clear n0_ n1_ n2_ n3_; (try clear hb); (try clear hb2); (try clear hk); (try clear hi); (try clear ho0)) | ((with_reducible refine gate_callee (f := 26) rfl ?_); refine goesL_ (some 76) rfl rfl Try.func26 (by kernel_rfl) rfl #[.slice Ao57 x17_19.length co57, .slice Ao58 t335.length co58] rfl (by (try simp only [List.map_toArray, List.map_cons, List.map_nil]); first | done | rfl | (simp only [List.length_drop, List.length_take]; rfl)) ?_; (with_reducible refine (railplanref30_Mul.calls kj19 _ _ x17_19 _ _ t335 t352 t353 _ ?side1 ?side2 ?side3 ?side4 A32.out).mono ?_); (case side1 => repeat (first | exact (Kd.N_reads' HO_17.out).2.2 | (with_reducible refine Kd.C_alloc ?_ _) | (with_reducible refine Kd.C_drewN ?_ _) | (with_reducible refine Kd.C_drew ?_))); (case side2 => exact (Kd.N_reads' HO_17.out).2.1); (case side3 => repeat (first | exact (Kd.N_reads' HO_18.out).2.2 | (with_reducible refine Kd.C_alloc ?_ _) | (with_reducible refine Kd.C_drewN ?_ _) | (with_reducible refine Kd.C_drew ?_))); (case side4 => exact (Kd.N_reads' HO_18.out).2.1); rintro e w60 ⟨v354, rfl, ho0, hb⟩; refine ⟨_, rfl, ?_⟩; have n0_ := Aside0.mk (Kd.N_elder' (by (with_reducible repeat (first | apply Kd.N_alloc | apply Kd.N_drewN | apply Kd.N_drew)); exact HO_17.out) (by first | exact Kd.N_base ho0 | exact Kd.S_base ho0 | exact Kd.R_base ho0 | exact Kd.Q_base ho0) hb); have n1_ := Aside0.mk (Kd.N_elder' (by (with_reducible repeat (first | apply Kd.N_alloc | apply Kd.N_drewN | apply Kd.N_drew)); exact HO_18.out) (by first | exact Kd.N_base ho0 | exact Kd.S_base ho0 | exact Kd.R_base ho0 | exact Kd.Q_base ho0) hb); have n2_ := Aside0.mk (Kd.N_elder' (by (with_reducible repeat (first | apply Kd.N_alloc | apply Kd.N_drewN | apply Kd.N_drew)); exact HO351.out) (by first | exact Kd.N_base ho0 | exact Kd.S_base ho0 | exact Kd.R_base ho0 | exact Kd.Q_base ho0) hb); have n3_ := Aside0.mk (Kd.N_lower (Kd.N_mono (ok' := fun k_ => some k_ ≠ (.slice Ao57 x17_19.length co57 : Value).ownBlock ∧ some k_ ≠ (.slice Ao58 t335.length co58 : Value).ownBlock ∧ some k_ ≠ (v350 : Value).ownBlock) (Kd.S_N (Kd.S_bound ho0)) (fun k_ hk_ => ⟨(Kd.fresh' (Kd.N_lt (by (with_reducible repeat (first | apply Kd.N_alloc | apply Kd.N_drewN | apply Kd.N_drew)); exact HO_17.out)) k_ hk_.2.1), (Kd.fresh' (Kd.N_lt (by (with_reducible repeat (first | apply Kd.N_alloc | apply Kd.N_drewN | apply Kd.N_drew)); exact HO_18.out)) k_ hk_.2.1), (Kd.fresh' (Kd.N_lt (by (with_reducible repeat (first | apply Kd.N_alloc | apply Kd.N_drewN | apply Kd.N_drew)); exact HO351.out)) k_ hk_.2.1)⟩)) (below_size (by repeat (first | (with_reducible first | exact HB.out | apply below_alloc | apply pw_below_drewN | apply below_drew1) | exact HB.out)))); have n4_ := Aside0.mk (below_step (by repeat (first | (with_reducible first | exact HB.out | apply below_alloc | apply pw_below_drewN | apply below_drew1) | exact HB.out)) hb); clear HO_17; clear HO_18; clear HO351; clear HB; have HO_17 := n0_; have HO_18 := n1_; have HO351 := n2_; have HO355 := n3_; have HB := n4_; clear n0_ n1_ n2_ n3_ n4_; (try clear hb); (try clear hb2); (try clear hk); (try clear hi); (try clear ho0)) | ((with_reducible refine gate_callee (f := 27) rfl ?_); refine goesL_ (some 82) rfl rfl Try.func27 (by kernel_rfl) rfl #[.slice Ao57 x17_19.length co57, .slice A2 l2.length c2] rfl (by (try simp only [List.map_toArray, List.map_cons, List.map_nil]); first | done | rfl | (simp only [List.length_drop, List.length_take]; rfl)) ?_; (with_reducible refine (maxplus_Apply.calls kj19 _ _ x17_19 _ _ l2 t356 t357 _ ?side1 ?side2 ?side3 ?side4 A33.out).mono ?_); (case side1 => repeat (first | exact (Kd.N_reads' HO_17.out).2.2 | (with_reducible refine Kd.C_alloc ?_ _) | (with_reducible refine Kd.C_drewN ?_ _) | (with_reducible refine Kd.C_drew ?_))); (case side2 => exact (Kd.N_reads' HO_17.out).2.1); (case side3 => repeat (first | exact (Kd.C_below HR2.out HB.out) | (with_reducible refine Kd.C_alloc ?_ _) | (with_reducible refine Kd.C_drewN ?_ _) | (with_reducible refine Kd.C_drew ?_))); (case side4 => exact HC2.out); rintro e w61 ⟨v358, rfl, ho0, hb⟩; refine ⟨_, rfl, ?_⟩; have n0_ := Aside0.mk (Kd.N_elder' (by (with_reducible repeat (first | apply Kd.N_alloc | apply Kd.N_drewN | apply Kd.N_drew)); exact HO_17.out) (by first | exact Kd.N_base ho0 | exact Kd.S_base ho0 | exact Kd.R_base ho0 | exact Kd.Q_base ho0) hb); have n1_ := Aside0.mk (Kd.N_elder' (by (with_reducible repeat (first | apply Kd.N_alloc | apply Kd.N_drewN | apply Kd.N_drew)); exact HO_18.out) (by first | exact Kd.N_base ho0 | exact Kd.S_base ho0 | exact Kd.R_base ho0 | exact Kd.Q_base ho0) hb); have n2_ := Aside0.mk (Kd.N_elder' (by (with_reducible repeat (first | apply Kd.N_alloc | apply Kd.N_drewN | apply Kd.N_drew)); exact HO351.out) (by first | exact Kd.N_base ho0 | exact Kd.S_base ho0 | exact Kd.R_base ho0 | exact Kd.Q_base ho0) hb); have n3_ := Aside0.mk (Kd.N_elder' (by (with_reducible repeat (first | apply Kd.N_alloc | apply Kd.N_drewN | apply Kd.N_drew)); exact HO355.out) (by first | exact Kd.N_base ho0 | exact Kd.S_base ho0 | exact Kd.R_base ho0 | exact Kd.Q_base ho0) hb); have n4_ := Aside0.mk (Kd.R_lower ho0 (below_size (by repeat (first | (with_reducible first | exact HB.out | apply below_alloc | apply pw_below_drewN | apply below_drew1) | exact HB.out)))); have n5_ := Aside0.mk (below_step (by repeat (first | (with_reducible first | exact HB.out | apply below_alloc | apply pw_below_drewN | apply below_drew1) | exact HB.out)) hb); clear HO_17; clear HO_18; clear HO351; clear HO355; clear HB; have HO_17 := n0_; have HO_18 := n1_; have HO351 := n2_; have HO355 := n3_; have HO359 := n4_; have HB := n5_; clear n0_ n1_ n2_ n3_ n4_ n5_; (try clear hb); (try clear hb2); (try clear hk); (try clear hi); (try clear ho0)) | ((with_reducible refine gate_callee (f := 28) rfl ?_); refine goesL_ (some 88) rfl rfl Try.func28 (by kernel_rfl) rfl #[.slice Ao57 x17_19.length co57, .slice A2 l2.length c2] rfl (by (try simp only [List.map_toArray, List.map_cons, List.map_nil]); first | done | rfl | (simp only [List.length_drop, List.length_take]; rfl)) ?_; (with_reducible refine (railplanref30_Apply.calls kj19 _ _ x17_19 _ _ l2 t360 t361 _ ?side1 ?side2 ?side3 ?side4 A34.out).mono ?_); (case side1 => repeat (first | exact (Kd.N_reads' HO_17.out).2.2 | (with_reducible refine Kd.C_alloc ?_ _) | (with_reducible refine Kd.C_drewN ?_ _) | (with_reducible refine Kd.C_drew ?_))); (case side2 => exact (Kd.N_reads' HO_17.out).2.1); (case side3 => repeat (first | exact (Kd.C_below HR2.out HB.out) | (with_reducible refine Kd.C_alloc ?_ _) | (with_reducible refine Kd.C_drewN ?_ _) | (with_reducible refine Kd.C_drew ?_))); (case side4 => exact HC2.out); rintro e w62 ⟨v362, rfl, ho0, hb⟩; refine ⟨_, rfl, ?_⟩; have n0_ := Aside0.mk (Kd.N_elder' (by (with_reducible repeat (first | apply Kd.N_alloc | apply Kd.N_drewN | apply Kd.N_drew)); exact HO_17.out) (by first | exact Kd.N_base ho0 | exact Kd.S_base ho0 | exact Kd.R_base ho0 | exact Kd.Q_base ho0) hb); have n1_ := Aside0.mk (Kd.N_elder' (by (with_reducible repeat (first | apply Kd.N_alloc | apply Kd.N_drewN | apply Kd.N_drew)); exact HO_18.out) (by first | exact Kd.N_base ho0 | exact Kd.S_base ho0 | exact Kd.R_base ho0 | exact Kd.Q_base ho0) hb); have n2_ := Aside0.mk (Kd.N_elder' (by (with_reducible repeat (first | apply Kd.N_alloc | apply Kd.N_drewN | apply Kd.N_drew)); exact HO351.out) (by first | exact Kd.N_base ho0 | exact Kd.S_base ho0 | exact Kd.R_base ho0 | exact Kd.Q_base ho0) hb); have n3_ := Aside0.mk (Kd.N_elder' (by (with_reducible repeat (first | apply Kd.N_alloc | apply Kd.N_drewN | apply Kd.N_drew)); exact HO355.out) (by first | exact Kd.N_base ho0 | exact Kd.S_base ho0 | exact Kd.R_base ho0 | exact Kd.Q_base ho0) hb); have n4_ := Aside0.mk (Kd.R_elder' (by (with_reducible repeat (first | apply Kd.R_alloc | apply Kd.R_drewN | apply Kd.R_drew)); exact HO359.out) (by first | exact Kd.N_base ho0 | exact Kd.S_base ho0 | exact Kd.R_base ho0 | exact Kd.Q_base ho0) hb); have n5_ := Aside0.mk (Kd.R_lower (Kd.R_new' ho0 (Kd.R_lt (by (with_reducible repeat (first | apply Kd.R_alloc | apply Kd.R_drewN | apply Kd.R_drew)); exact HO359.out))) (below_size (by repeat (first | (with_reducible first | exact HB.out | apply below_alloc | apply pw_below_drewN | apply below_drew1) | exact HB.out)))); have n6_ := Aside0.mk (below_step (by repeat (first | (with_reducible first | exact HB.out | apply below_alloc | apply pw_below_drewN | apply below_drew1) | exact HB.out)) hb); clear HO_17; clear HO_18; clear HO351; clear HO355; clear HO359; clear HB; have HO_17 := n0_; have HO_18 := n1_; have HO351 := n2_; have HO355 := n3_; have HO359 := n4_; have HO363 := n5_; have HB := n6_; clear n0_ n1_ n2_ n3_ n4_ n5_ n6_; (try clear hb); (try clear hb2); (try clear hk); (try clear hi); (try clear ho0)) | ((with_reducible refine gate_callee (f := 15) rfl ?_); refine goesL_ (some 95) rfl rfl Try.func15 (by kernel_rfl) rfl #[.slice Ao57 x17_19.length co57, .int .i64 (Int.tmod a5 20)] rfl (by (try simp only [List.map_toArray, List.map_cons, List.map_nil]); first | done | rfl | (simp only [List.length_drop, List.length_take]; rfl)) ?_; (with_reducible refine (maxplus_Power.calls kj19 _ _ x17_19 (Int.tmod a5 20) t364 t365 _ ?side1 ?side2 A35.out).mono ?_); (case side1 => repeat (first | exact (Kd.N_reads' HO_17.out).2.2 | (with_reducible refine Kd.C_alloc ?_ _) | (with_reducible refine Kd.C_drewN ?_ _) | (with_reducible refine Kd.C_drew ?_))); (case side2 => exact (Kd.N_reads' HO_17.out).2.1); rintro e w63 ⟨v366, rfl, ho0, hb⟩; refine ⟨_, rfl, ?_⟩; have n0_ := Aside0.mk (Kd.N_elder' (by (with_reducible repeat (first | apply Kd.N_alloc | apply Kd.N_drewN | apply Kd.N_drew)); exact HO_17.out) (by first | exact Kd.N_base ho0 | exact Kd.S_base ho0 | exact Kd.R_base ho0 | exact Kd.Q_base ho0) hb); have n1_ := Aside0.mk (Kd.N_elder' (by (with_reducible repeat (first | apply Kd.N_alloc | apply Kd.N_drewN | apply Kd.N_drew)); exact HO_18.out) (by first | exact Kd.N_base ho0 | exact Kd.S_base ho0 | exact Kd.R_base ho0 | exact Kd.Q_base ho0) hb); have n2_ := Aside0.mk (Kd.N_elder' (by (with_reducible repeat (first | apply Kd.N_alloc | apply Kd.N_drewN | apply Kd.N_drew)); exact HO351.out) (by first | exact Kd.N_base ho0 | exact Kd.S_base ho0 | exact Kd.R_base ho0 | exact Kd.Q_base ho0) hb); have n3_ := Aside0.mk (Kd.N_elder' (by (with_reducible repeat (first | apply Kd.N_alloc | apply Kd.N_drewN | apply Kd.N_drew)); exact HO355.out) (by first | exact Kd.N_base ho0 | exact Kd.S_base ho0 | exact Kd.R_base ho0 | exact Kd.Q_base ho0) hb); have n4_ := Aside0.mk (Kd.R_below (by (with_reducible repeat (first | apply Kd.R_alloc | apply Kd.R_drewN | apply Kd.R_drew)); exact HO359.out) hb); have n5_ := Aside0.mk (Kd.R_below (by (with_reducible repeat (first | apply Kd.R_alloc | apply Kd.R_drewN | apply Kd.R_drew)); exact HO363.out) hb); have n6_ := Aside0.mk (Kd.N_lower (Kd.N_mono (ok' := fun k_ => some k_ ≠ (.slice Ao57 x17_19.length co57 : Value).ownBlock ∧ some k_ ≠ (.slice Ao58 t335.length co58 : Value).ownBlock ∧ some k_ ≠ (v350 : Value).ownBlock ∧ some k_ ≠ (v354 : Value).ownBlock ∧ some k_ ≠ (v358 : Value).ownBlock ∧ some k_ ≠ (v362 : Value).ownBlock) (Kd.S_N (Kd.S_bound ho0)) (fun k_ hk_ => ⟨(Kd.fresh' (Kd.N_lt (by (with_reducible repeat (first | apply Kd.N_alloc | apply Kd.N_drewN | apply Kd.N_drew)); exact HO_17.out)) k_ hk_.2.1), (Kd.fresh' (Kd.N_lt (by (with_reducible repeat (first | apply Kd.N_alloc | apply Kd.N_drewN | apply Kd.N_drew)); exact HO_18.out)) k_ hk_.2.1), (Kd.fresh' (Kd.N_lt (by (with_reducible repeat (first | apply Kd.N_alloc | apply Kd.N_drewN | apply Kd.N_drew)); exact HO351.out)) k_ hk_.2.1), (Kd.fresh' (Kd.N_lt (by (with_reducible repeat (first | apply Kd.N_alloc | apply Kd.N_drewN | apply Kd.N_drew)); exact HO355.out)) k_ hk_.2.1), (Kd.fresh' (Kd.R_lt (by (with_reducible repeat (first | apply Kd.R_alloc | apply Kd.R_drewN | apply Kd.R_drew)); exact HO359.out)) k_ hk_.2.1), (Kd.fresh' (Kd.R_lt (by (with_reducible repeat (first | apply Kd.R_alloc | apply Kd.R_drewN | apply Kd.R_drew)); exact HO363.out)) k_ hk_.2.1)⟩)) (below_size (by repeat (first | (with_reducible first | exact HB.out | apply below_alloc | apply pw_below_drewN | apply below_drew1) | exact HB.out)))); have n7_ := Aside0.mk (below_step (by repeat (first | (with_reducible first | exact HB.out | apply below_alloc | apply pw_below_drewN | apply below_drew1) | exact HB.out)) hb); clear HO_17; clear HO_18; clear HO351; clear HO355; clear HO359; clear HO363; clear HB; have HO_17 := n0_; have HO_18 := n1_; have HO351 := n2_; have HO355 := n3_; have HO359 := n4_; have HO363 := n5_; have HO367 := n6_; have HB := n7_; clear n0_ n1_ n2_ n3_ n4_ n5_ n6_ n7_; (try clear hb); (try clear hb2); (try clear hk); (try clear hi); (try clear ho0)) | ((with_reducible refine gate_callee (f := 29) rfl ?_); refine goesL_ (some 102) rfl rfl Try.func29 (by kernel_rfl) rfl #[.slice Ao57 x17_19.length co57, .int .i64 (Int.tmod a5 20)] rfl (by (try simp only [List.map_toArray, List.map_cons, List.map_nil]); first | done | rfl | (simp only [List.length_drop, List.length_take]; rfl)) ?_; (with_reducible refine (railplanref30_Power.calls kj19 _ _ x17_19 (Int.tmod a5 20) t368 t369 _ ?side1 ?side2 A36.out).mono ?_); (case side1 => repeat (first | exact (Kd.N_reads' HO_17.out).2.2 | (with_reducible refine Kd.C_alloc ?_ _) | (with_reducible refine Kd.C_drewN ?_ _) | (with_reducible refine Kd.C_drew ?_))); (case side2 => exact (Kd.N_reads' HO_17.out).2.1); rintro e w64 ⟨v370, rfl, ho0, hb⟩; refine ⟨_, rfl, ?_⟩; have n0_ := Aside0.mk (Kd.N_elder' (by (with_reducible repeat (first | apply Kd.N_alloc | apply Kd.N_drewN | apply Kd.N_drew)); exact HO_17.out) (by first | exact Kd.N_base ho0 | exact Kd.S_base ho0 | exact Kd.R_base ho0 | exact Kd.Q_base ho0) hb); have n1_ := Aside0.mk (Kd.N_elder' (by (with_reducible repeat (first | apply Kd.N_alloc | apply Kd.N_drewN | apply Kd.N_drew)); exact HO_18.out) (by first | exact Kd.N_base ho0 | exact Kd.S_base ho0 | exact Kd.R_base ho0 | exact Kd.Q_base ho0) hb); have n2_ := Aside0.mk (Kd.N_elder' (by (with_reducible repeat (first | apply Kd.N_alloc | apply Kd.N_drewN | apply Kd.N_drew)); exact HO351.out) (by first | exact Kd.N_base ho0 | exact Kd.S_base ho0 | exact Kd.R_base ho0 | exact Kd.Q_base ho0) hb); have n3_ := Aside0.mk (Kd.N_elder' (by (with_reducible repeat (first | apply Kd.N_alloc | apply Kd.N_drewN | apply Kd.N_drew)); exact HO355.out) (by first | exact Kd.N_base ho0 | exact Kd.S_base ho0 | exact Kd.R_base ho0 | exact Kd.Q_base ho0) hb); have n4_ := Aside0.mk (Kd.R_below (by (with_reducible repeat (first | apply Kd.R_alloc | apply Kd.R_drewN | apply Kd.R_drew)); exact HO359.out) hb); have n5_ := Aside0.mk (Kd.R_below (by (with_reducible repeat (first | apply Kd.R_alloc | apply Kd.R_drewN | apply Kd.R_drew)); exact HO363.out) hb); have n6_ := Aside0.mk (Kd.N_elder' (by (with_reducible repeat (first | apply Kd.N_alloc | apply Kd.N_drewN | apply Kd.N_drew)); exact HO367.out) (by first | exact Kd.N_base ho0 | exact Kd.S_base ho0 | exact Kd.R_base ho0 | exact Kd.Q_base ho0) hb); have n7_ := Aside0.mk (Kd.N_lower (Kd.N_mono (ok' := fun k_ => some k_ ≠ (.slice Ao57 x17_19.length co57 : Value).ownBlock ∧ some k_ ≠ (.slice Ao58 t335.length co58 : Value).ownBlock ∧ some k_ ≠ (v350 : Value).ownBlock ∧ some k_ ≠ (v354 : Value).ownBlock ∧ some k_ ≠ (v358 : Value).ownBlock ∧ some k_ ≠ (v362 : Value).ownBlock ∧ some k_ ≠ (v366 : Value).ownBlock) (Kd.S_N (Kd.S_bound ho0)) (fun k_ hk_ => ⟨(Kd.fresh' (Kd.N_lt (by (with_reducible repeat (first | apply Kd.N_alloc | apply Kd.N_drewN | apply Kd.N_drew)); exact HO_17.out)) k_ hk_.2.1), (Kd.fresh' (Kd.N_lt (by (with_reducible repeat (first | apply Kd.N_alloc | apply Kd.N_drewN | apply Kd.N_drew)); exact HO_18.out)) k_ hk_.2.1), (Kd.fresh' (Kd.N_lt (by (with_reducible repeat (first | apply Kd.N_alloc | apply Kd.N_drewN | apply Kd.N_drew)); exact HO351.out)) k_ hk_.2.1), (Kd.fresh' (Kd.N_lt (by (with_reducible repeat (first | apply Kd.N_alloc | apply Kd.N_drewN | apply Kd.N_drew)); exact HO355.out)) k_ hk_.2.1), (Kd.fresh' (Kd.R_lt (by (with_reducible repeat (first | apply Kd.R_alloc | apply Kd.R_drewN | apply Kd.R_drew)); exact HO359.out)) k_ hk_.2.1), (Kd.fresh' (Kd.R_lt (by (with_reducible repeat (first | apply Kd.R_alloc | apply Kd.R_drewN | apply Kd.R_drew)); exact HO363.out)) k_ hk_.2.1), (Kd.fresh' (Kd.N_lt (by (with_reducible repeat (first | apply Kd.N_alloc | apply Kd.N_drewN | apply Kd.N_drew)); exact HO367.out)) k_ hk_.2.1)⟩)) (below_size (by repeat (first | (with_reducible first | exact HB.out | apply below_alloc | apply pw_below_drewN | apply below_drew1) | exact HB.out)))); have n8_ := Aside0.mk (below_step (by repeat (first | (with_reducible first | exact HB.out | apply below_alloc | apply pw_below_drewN | apply below_drew1) | exact HB.out)) hb); clear HO_17; clear HO_18; clear HO351; clear HO355; clear HO359; clear HO363; clear HO367; clear HB; have HO_17 := n0_; have HO_18 := n1_; have HO351 := n2_; have HO355 := n3_; have HO359 := n4_; have HO363 := n5_; have HO367 := n6_; have HO371 := n7_; have HB := n8_; clear n0_ n1_ n2_ n3_ n4_ n5_ n6_ n7_ n8_; (try clear hb); (try clear hb2); (try clear hk); (try clear hi); (try clear ho0)) | ((with_reducible refine gate_callee (f := 21) rfl ?_); refine goesL_ (some 111) rfl rfl Try.func21 (by kernel_rfl) rfl #[.slice Ao57 x17_19.length co57, .slice A2 l2.length c2, .int .i64 a6, .int .i64 (Int.tmod a7 50)] rfl (by (try simp only [List.map_toArray, List.map_cons, List.map_nil]); first | done | rfl | (simp only [List.length_drop, List.length_take]; rfl)) ?_; (with_reducible refine (maxplus_Recover.calls kj19 _ _ x17_19 (fun k_ => k_ < w.heap.size) _ _ l2 a6 (Int.tmod a7 50) t372 t373 _ ?side1 ?side2 ?side3 A37.out).mono ?_); (case side1 => repeat (first | exact (Kd.N_reads' HO_17.out).2.2 | (with_reducible refine Kd.C_alloc ?_ _) | (with_reducible refine Kd.C_drewN ?_ _) | (with_reducible refine Kd.C_drew ?_))); (case side2 => exact (Kd.N_reads' HO_17.out).2.1); (case side3 => exact Kd.V_mk HC2.out (Kd.F_below (Kd.C_F (Kd.heap_int .i64) HR2.out) (by repeat (first | (with_reducible first | exact HB.out | apply below_alloc | apply pw_below_drewN | apply below_drew1) | exact HB.out)))); rintro e w65 ⟨rfl, hb⟩; refine ⟨_, rfl, ?_⟩; have n0_ := Aside0.mk (Kd.N_below (by (with_reducible repeat (first | apply Kd.N_alloc | apply Kd.N_drewN | apply Kd.N_drew)); exact HO_17.out) hb); have n1_ := Aside0.mk (Kd.N_below (by (with_reducible repeat (first | apply Kd.N_alloc | apply Kd.N_drewN | apply Kd.N_drew)); exact HO_18.out) hb); have n2_ := Aside0.mk (Kd.N_below (by (with_reducible repeat (first | apply Kd.N_alloc | apply Kd.N_drewN | apply Kd.N_drew)); exact HO351.out) hb); have n3_ := Aside0.mk (Kd.N_below (by (with_reducible repeat (first | apply Kd.N_alloc | apply Kd.N_drewN | apply Kd.N_drew)); exact HO355.out) hb); have n4_ := Aside0.mk (Kd.R_below (by (with_reducible repeat (first | apply Kd.R_alloc | apply Kd.R_drewN | apply Kd.R_drew)); exact HO359.out) hb); have n5_ := Aside0.mk (Kd.R_below (by (with_reducible repeat (first | apply Kd.R_alloc | apply Kd.R_drewN | apply Kd.R_drew)); exact HO363.out) hb); have n6_ := Aside0.mk (Kd.N_below (by (with_reducible repeat (first | apply Kd.N_alloc | apply Kd.N_drewN | apply Kd.N_drew)); exact HO367.out) hb); have n7_ := Aside0.mk (Kd.N_below (by (with_reducible repeat (first | apply Kd.N_alloc | apply Kd.N_drewN | apply Kd.N_drew)); exact HO371.out) hb); have n8_ := Aside0.mk (below_step (by repeat (first | (with_reducible first | exact HB.out | apply below_alloc | apply pw_below_drewN | apply below_drew1) | exact HB.out)) hb); clear HO_17; clear HO_18; clear HO351; clear HO355; clear HO359; clear HO363; clear HO367; clear HO371; clear HB; have HO_17 := n0_; have HO_18 := n1_; have HO351 := n2_; have HO355 := n3_; have HO359 := n4_; have HO363 := n5_; have HO367 := n6_; have HO371 := n7_; have HB := n8_; clear n0_ n1_ n2_ n3_ n4_ n5_ n6_ n7_ n8_; (try clear hb); (try clear hb2); (try clear hk); (try clear hi)) | ((with_reducible refine gate_callee (f := 22) rfl ?_); refine goesL_ (some 120) rfl rfl Try.func22 (by kernel_rfl) rfl #[.slice Ao57 x17_19.length co57, .slice A2 l2.length c2, .int .i64 a6, .int .i64 (Int.tmod a7 50)] rfl (by (try simp only [List.map_toArray, List.map_cons, List.map_nil]); first | done | rfl | (simp only [List.length_drop, List.length_take]; rfl)) ?_; (with_reducible refine (railplanref30_Recover.calls kj19 _ _ x17_19 _ _ l2 a6 (Int.tmod a7 50) t374 t375 _ ?side1 ?side2 ?side3 ?side4 A38.out).mono ?_); (case side1 => repeat (first | exact (Kd.N_reads' HO_17.out).2.2 | (with_reducible refine Kd.C_alloc ?_ _) | (with_reducible refine Kd.C_drewN ?_ _) | (with_reducible refine Kd.C_drew ?_))); (case side2 => exact (Kd.N_reads' HO_17.out).2.1); (case side3 => repeat (first | exact (Kd.C_below HR2.out HB.out) | (with_reducible refine Kd.C_alloc ?_ _) | (with_reducible refine Kd.C_drewN ?_ _) | (with_reducible refine Kd.C_drew ?_))); (case side4 => exact HC2.out); rintro e w66 ⟨rfl, hb⟩; refine ⟨_, rfl, ?_⟩; have n0_ := Aside0.mk (Kd.N_below (by (with_reducible repeat (first | apply Kd.N_alloc | apply Kd.N_drewN | apply Kd.N_drew)); exact HO_17.out) hb); have n1_ := Aside0.mk (Kd.N_below (by (with_reducible repeat (first | apply Kd.N_alloc | apply Kd.N_drewN | apply Kd.N_drew)); exact HO_18.out) hb); have n2_ := Aside0.mk (Kd.N_below (by (with_reducible repeat (first | apply Kd.N_alloc | apply Kd.N_drewN | apply Kd.N_drew)); exact HO351.out) hb); have n3_ := Aside0.mk (Kd.N_below (by (with_reducible repeat (first | apply Kd.N_alloc | apply Kd.N_drewN | apply Kd.N_drew)); exact HO355.out) hb); have n4_ := Aside0.mk (Kd.R_below (by (with_reducible repeat (first | apply Kd.R_alloc | apply Kd.R_drewN | apply Kd.R_drew)); exact HO359.out) hb); have n5_ := Aside0.mk (Kd.R_below (by (with_reducible repeat (first | apply Kd.R_alloc | apply Kd.R_drewN | apply Kd.R_drew)); exact HO363.out) hb); have n6_ := Aside0.mk (Kd.N_below (by (with_reducible repeat (first | apply Kd.N_alloc | apply Kd.N_drewN | apply Kd.N_drew)); exact HO367.out) hb); have n7_ := Aside0.mk (Kd.N_below (by (with_reducible repeat (first | apply Kd.N_alloc | apply Kd.N_drewN | apply Kd.N_drew)); exact HO371.out) hb); have n8_ := Aside0.mk (below_step (by repeat (first | (with_reducible first | exact HB.out | apply below_alloc | apply pw_below_drewN | apply below_drew1) | exact HB.out)) hb); clear HO_17; clear HO_18; clear HO351; clear HO355; clear HO359; clear HO363; clear HO367; clear HO371; clear HB; have HO_17 := n0_; have HO_18 := n1_; have HO351 := n2_; have HO355 := n3_; have HO359 := n4_; have HO363 := n5_; have HO367 := n6_; have HO371 := n7_; have HB := n8_; clear n0_ n1_ n2_ n3_ n4_ n5_ n6_ n7_ n8_; (try clear hb); (try clear hb2); (try clear hk); (try clear hi)) | ((with_reducible refine gate_callee (f := 17) rfl ?_); refine goesL_ (some 123) rfl rfl Try.func17 (by kernel_rfl) rfl #[] rfl (by (try simp only [List.map_toArray, List.map_cons, List.map_nil]); first | done | rfl | (simp only [List.length_drop, List.length_take]; rfl)) ?_; (with_reducible refine (railplanlaw33_awake.calls kj19  true _ A39.out ⟨by first | rfl | assumption | exact hT.out⟩).mono ?_); rintro e w67 ⟨rfl, hb⟩; refine ⟨_, rfl, ?_⟩; have n0_ := Aside0.mk (Kd.N_below (by (with_reducible repeat (first | apply Kd.N_alloc | apply Kd.N_drewN | apply Kd.N_drew)); exact HO_17.out) hb); have n1_ := Aside0.mk (Kd.N_below (by (with_reducible repeat (first | apply Kd.N_alloc | apply Kd.N_drewN | apply Kd.N_drew)); exact HO_18.out) hb); have n2_ := Aside0.mk (Kd.N_below (by (with_reducible repeat (first | apply Kd.N_alloc | apply Kd.N_drewN | apply Kd.N_drew)); exact HO351.out) hb); have n3_ := Aside0.mk (Kd.N_below (by (with_reducible repeat (first | apply Kd.N_alloc | apply Kd.N_drewN | apply Kd.N_drew)); exact HO355.out) hb); have n4_ := Aside0.mk (Kd.R_below (by (with_reducible repeat (first | apply Kd.R_alloc | apply Kd.R_drewN | apply Kd.R_drew)); exact HO359.out) hb); have n5_ := Aside0.mk (Kd.R_below (by (with_reducible repeat (first | apply Kd.R_alloc | apply Kd.R_drewN | apply Kd.R_drew)); exact HO363.out) hb); have n6_ := Aside0.mk (Kd.N_below (by (with_reducible repeat (first | apply Kd.N_alloc | apply Kd.N_drewN | apply Kd.N_drew)); exact HO367.out) hb); have n7_ := Aside0.mk (Kd.N_below (by (with_reducible repeat (first | apply Kd.N_alloc | apply Kd.N_drewN | apply Kd.N_drew)); exact HO371.out) hb); have n8_ := Aside0.mk (below_step (by repeat (first | (with_reducible first | exact HB.out | apply below_alloc | apply pw_below_drewN | apply below_drew1) | exact HB.out)) hb); clear HO_17; clear HO_18; clear HO351; clear HO355; clear HO359; clear HO363; clear HO367; clear HO371; clear HB; have HO_17 := n0_; have HO_18 := n1_; have HO351 := n2_; have HO355 := n3_; have HO359 := n4_; have HO363 := n5_; have HO367 := n6_; have HO371 := n7_; have HB := n8_; clear n0_ n1_ n2_ n3_ n4_ n5_ n6_ n7_ n8_; (try clear hb); (try clear hb2); (try clear hk); (try clear hi)) | (go_at_call 30; (with_reducible refine (maxplus_Check.calls kj19 _ _ x17_19 t377 _ ?side1 ?side2 A41.out).mono ?_); (case side1 => repeat (first | exact (Kd.N_reads' HO_17.out).2.2 | (with_reducible refine Kd.C_alloc ?_ _) | (with_reducible refine Kd.C_drewN ?_ _) | (with_reducible refine Kd.C_drew ?_))); (case side2 => exact (Kd.N_reads' HO_17.out).2.1); rintro e w' ⟨rfl, ⟨nd, rfl⟩⟩) | (go_at_call 31; (with_reducible refine (railplanref30_CheckMatrix.calls kj19 _ _ x17_19 t378 _ ?side1 ?side2 A42.out).mono ?_); (case side1 => repeat (first | exact (Kd.N_reads' HO_17.out).2.2 | (with_reducible refine Kd.C_alloc ?_ _) | (with_reducible refine Kd.C_drewN ?_ _) | (with_reducible refine Kd.C_drew ?_))); (case side2 => exact (Kd.N_reads' HO_17.out).2.1); rintro e w' ⟨rfl, ⟨nd, rfl⟩⟩) | (go_at_call 32; (with_reducible refine (maxplus_Vector.calls kj19 (x17_19.length : Int) _ _ l2 t379 _ ?side1 ?side2 A44.out).mono ?_); (case side1 => repeat (first | exact (Kd.C_below HR2.out (by repeat (first | (with_reducible first | exact HB.out | apply below_alloc | apply pw_below_drewN | apply below_drew1) | exact HB.out))) | (with_reducible refine Kd.C_alloc ?_ _) | (with_reducible refine Kd.C_drewN ?_ _) | (with_reducible refine Kd.C_drew ?_))); (case side2 => exact HC2.out); rintro e w' ⟨rfl, ⟨nd, rfl⟩⟩) | (go_at_call 33; (with_reducible refine (railplanref30_Vector.calls kj19 (x17_19.length : Int) _ _ l2 t380 _ ?side1 ?side2 A45.out).mono ?_); (case side1 => repeat (first | exact (Kd.C_below HR2.out (by repeat (first | (with_reducible first | exact HB.out | apply below_alloc | apply pw_below_drewN | apply below_drew1) | exact HB.out))) | (with_reducible refine Kd.C_alloc ?_ _) | (with_reducible refine Kd.C_drewN ?_ _) | (with_reducible refine Kd.C_drew ?_))); (case side2 => exact HC2.out); rintro e w' ⟨rfl, ⟨nd, rfl⟩⟩; obtain ⟨Ao68, co68, eo68⟩ := Kd.N_slice HO351.out; subst eo68; obtain ⟨Ao69, co69, eo69⟩ := Kd.N_slice HO355.out; subst eo69) | (go_at_call 18; (with_reducible refine (railplankeep_SameLists_int.calls kj19 _ _ t348 _ _ t352 true _ ?side1 ?side2 ?side3 ?side4 A47.out).mono ?_); (case side1 => repeat (first | exact (Kd.N_reads' HO351.out).2.2 | (with_reducible refine Kd.C_alloc ?_ _) | (with_reducible refine Kd.C_drewN ?_ _) | (with_reducible refine Kd.C_drew ?_))); (case side2 => exact (Kd.N_reads' HO351.out).2.1); (case side3 => repeat (first | exact (Kd.N_reads' HO355.out).2.2 | (with_reducible refine Kd.C_alloc ?_ _) | (with_reducible refine Kd.C_drewN ?_ _) | (with_reducible refine Kd.C_drew ?_))); (case side4 => exact (Kd.N_reads' HO355.out).2.1); rintro e w' ⟨rfl, ⟨nd, rfl⟩⟩; obtain ⟨Ao70, co70, eo70⟩ := Kd.R_slice HO359.out; subst eo70; obtain ⟨Ao71, co71, eo71⟩ := Kd.R_slice HO363.out; subst eo71) | (go_at_call 34; (with_reducible refine (railplankeep_Same_int.calls kj19 _ _ t356 _ _ t360 true _ ?side1 ?side2 ?side3 ?side4 A50.out).mono ?_); (case side1 => repeat (first | exact (Kd.R_reads' HO359.out).2.2 | (with_reducible refine Kd.C_alloc ?_ _) | (with_reducible refine Kd.C_drewN ?_ _) | (with_reducible refine Kd.C_drew ?_))); (case side2 => exact (Kd.R_reads' HO359.out).2.1); (case side3 => repeat (first | exact (Kd.R_reads' HO363.out).2.2 | (with_reducible refine Kd.C_alloc ?_ _) | (with_reducible refine Kd.C_drewN ?_ _) | (with_reducible refine Kd.C_drew ?_))); (case side4 => exact (Kd.R_reads' HO363.out).2.1); rintro e w' ⟨rfl, ⟨nd, rfl⟩⟩; obtain ⟨Ao72, co72, eo72⟩ := Kd.N_slice HO367.out; subst eo72; obtain ⟨Ao73, co73, eo73⟩ := Kd.N_slice HO371.out; subst eo73) | (go_at_call 18; (with_reducible refine (railplankeep_SameLists_int.calls kj19 _ _ t364 _ _ t368 true _ ?side1 ?side2 ?side3 ?side4 A53.out).mono ?_); (case side1 => repeat (first | exact (Kd.N_reads' HO367.out).2.2 | (with_reducible refine Kd.C_alloc ?_ _) | (with_reducible refine Kd.C_drewN ?_ _) | (with_reducible refine Kd.C_drew ?_))); (case side2 => exact (Kd.N_reads' HO367.out).2.1); (case side3 => repeat (first | exact (Kd.N_reads' HO371.out).2.2 | (with_reducible refine Kd.C_alloc ?_ _) | (with_reducible refine Kd.C_drewN ?_ _) | (with_reducible refine Kd.C_drew ?_))); (case side4 => exact (Kd.N_reads' HO371.out).2.1); rintro e w' ⟨rfl, ⟨nd, rfl⟩⟩))
               go_ret
               exact ⟨by first | rfl | (simp [errW_none, errW_some] <;> rfl) | (simp [*, errW_none, errW_some] <;> rfl), by repeat (first | (with_reducible first | exact HB.out | apply below_alloc | apply pw_below_drewN | apply below_drew1) | exact HB.out)⟩
              ·rw [if_neg c56] at H
               have c56b0 : (t372 == t374) = false := beq_eq_false_iff_ne.mpr c56
               have c56b1 : (t372 != t374) = true := bne_iff_ne.mpr c56
               exact absurd (Option.some.inj H) (by rw [hT.out]; decide)
             ·rw [if_neg c55] at H
              have c55b0 : (t365 == t369) = false := beq_eq_false_iff_ne.mpr c55
              have c55b1 : (t365 != t369) = true := bne_iff_ne.mpr c55
              exact absurd (Option.some.inj H) (by rw [hT.out]; decide)
            ·replace c54 := Bool.eq_false_iff.mpr c54
             subst c54
             have H1 : (some false) = some r := by rw [if_neg (show ¬ (false = true) by decide)] at H; exact H
             clear H
             have H := H1
             clear H1
             exact absurd (Option.some.inj H) (by rw [hT.out]; decide)
           ·rw [if_neg c52] at H
            have c52b0 : (t357 == t361) = false := beq_eq_false_iff_ne.mpr c52
            have c52b1 : (t357 != t361) = true := bne_iff_ne.mpr c52
            exact absurd (Option.some.inj H) (by rw [hT.out]; decide)
          ·replace c51 := Bool.eq_false_iff.mpr c51
           subst c51
           have H1 : (some false) = some r := by rw [if_neg (show ¬ (false = true) by decide)] at H; exact H
           clear H
           have H := H1
           clear H1
           exact absurd (Option.some.inj H) (by rw [hT.out]; decide)
         ·rw [if_neg c49] at H
          have c49b0 : (t349 == t353) = false := beq_eq_false_iff_ne.mpr c49
          have c49b1 : (t349 != t353) = true := bne_iff_ne.mpr c49
          exact absurd (Option.some.inj H) (by rw [hT.out]; decide)
        ·replace c48 := Bool.eq_false_iff.mpr c48
         subst c48
         have H1 : (some false) = some r := by rw [if_neg (show ¬ (false = true) by decide)] at H; exact H
         clear H
         have H := H1
         clear H1
         exact absurd (Option.some.inj H) (by rw [hT.out]; decide)
       ·rw [if_neg c46] at H
        have c46b0 : (t379 == t380) = false := by simpa using c46
        (try (have c46b1 : decide (t379 = t380) = false := by simpa using c46))
        (try (have c46b2 : (t379 == t380) = false := by simpa using c46))
        (try (have c46b3 : ¬ (t379 = t380) := by simpa using c46))
        clear c46
        exact absurd (Option.some.inj H) (by rw [hT.out]; decide)
      ·rw [if_neg c43] at H
       have c43b0 : (t377 == t378) = false := by simpa using c43
       (try (have c43b1 : decide (t377 = t378) = false := by simpa using c43))
       (try (have c43b2 : (t377 == t378) = false := by simpa using c43))
       (try (have c43b3 : ¬ (t377 = t378) := by simpa using c43))
       clear c43
       exact absurd (Option.some.inj H) (by rw [hT.out]; decide)
     ·replace c40 := Bool.eq_false_iff.mpr c40
      subst c40
      have H1 : (some false) = some r := by rw [if_neg (show ¬ (false = true) by decide)] at H; exact H
      clear H
      have H := H1
      clear H1
      exact absurd (Option.some.inj H) (by rw [hT.out]; decide)

/-- THE ONE PURE STATEMENT of railplanlaw33_MaxplusRaw: yours. -/
def railplanlaw33_MaxplusRaw.Pure : Prop := ∀ (l0 : List Int) (l1 : List Int) (l2 : List Int) (a3 : Int) (a4 : Int) (a5 : Int) (a6 : Int) (a7 : Int), l0.length ≤ maxLen → l0.length * 8 ≤ 140737488351232 → (∀ x ∈ l0, (Lit.int .i64 x).wf = true) → l1.length ≤ maxLen → l1.length * 8 ≤ 140737488351232 → (∀ x ∈ l1, (Lit.int .i64 x).wf = true) → l2.length ≤ maxLen → l2.length * 8 ≤ 140737488351232 → (∀ x ∈ l2, (Lit.int .i64 x).wf = true) → (Lit.int .i64 a3).wf = true → (Lit.int .i64 a4).wf = true → (Lit.int .i64 a5).wf = true → (Lit.int .i64 a6).wf = true → (Lit.int .i64 a7).wf = true → ∃ k, railplanlaw33_MaxplusRaw.f k l0 l1 l2 a3 a4 a5 a6 a7 = some true
theorem railplanlaw33_MaxplusRaw.walk (P : railplanlaw33_MaxplusRaw.Pure) (a0 : Option Addr) (len0 cap0 : Nat) (z0 : List Int) (a1 : Option Addr) (len1 cap1 : Nat) (z1 : List Int) (a2 : Option Addr) (len2 cap2 : Nat) (z2 : List Int) (a3 : Int) (a4 : Int) (a5 : Int) (a6 : Int) (a7 : Int) (w : World) (w0 : (a0 = none ∧ len0 = 0 ∧ cap0 = 0 ∧ z0 = []) ∨ ∃ x, a0 = some x ∧ len0 ≤ cap0 ∧ cap0 ≤ maxLen ∧ z0.length = cap0 ∧ (∀ i, i < z0.length → w.cell? (x.add i) = some (.int .i64 (z0.getD i 0))) ∧ ∀ n ∈ z0, (Lit.int .i64 n).wf = true) (y0 : len0 * 8 ≤ 140737488351232) (w1 : (a1 = none ∧ len1 = 0 ∧ cap1 = 0 ∧ z1 = []) ∨ ∃ x, a1 = some x ∧ len1 ≤ cap1 ∧ cap1 ≤ maxLen ∧ z1.length = cap1 ∧ (∀ i, i < z1.length → w.cell? (x.add i) = some (.int .i64 (z1.getD i 0))) ∧ ∀ n ∈ z1, (Lit.int .i64 n).wf = true) (y1 : len1 * 8 ≤ 140737488351232) (w2 : (a2 = none ∧ len2 = 0 ∧ cap2 = 0 ∧ z2 = []) ∨ ∃ x, a2 = some x ∧ len2 ≤ cap2 ∧ cap2 ≤ maxLen ∧ z2.length = cap2 ∧ (∀ i, i < z2.length → w.cell? (x.add i) = some (.int .i64 (z2.getD i 0))) ∧ ∀ n ∈ z2, (Lit.int .i64 n).wf = true) (y2 : len2 * 8 ≤ 140737488351232) (w3 : (Lit.int .i64 a3).wf = true) (w4 : (Lit.int .i64 a4).wf = true) (w5 : (Lit.int .i64 a5).wf = true) (w6 : (Lit.int .i64 a6).wf = true) (w7 : (Lit.int .i64 a7).wf = true) :
  Calls Try.prog 7 #[.slice a0 len0 cap0, .slice a1 len1 cap1, .slice a2 len2 cap2, .int .i64 a3, .int .i64 a4, .int .i64 a5, .int .i64 a6, .int .i64 a7] w fun e w' => e = .returned (.bool true) ∧ Below w.heap.size w w' := by
 obtain ⟨l0, rfl, hr0, hm0, hw0, hc0⟩ := ReadsInt.ofRowC w0
 obtain ⟨l1, rfl, hr1, hm1, hw1, hc1⟩ := ReadsInt.ofRowC w1
 obtain ⟨l2, rfl, hr2, hm2, hw2, hc2⟩ := ReadsInt.ofRowC w2
 obtain ⟨k, h⟩ := P l0 l1 l2 a3 a4 a5 a6 a7 hm0 y0 hw0 hm1 y1 hw1 hm2 y2 hw2 w3 w4 w5 w6 w7
 refine (railplanlaw33_MaxplusRaw.calls k _ _ l0 _ _ l1 _ _ l2 a3 a4 a5 a6 a7 true w (Kd.C_of_reads (d := (0 : Int)) (h1 := fun _ => rfl) hr0) hc0 (Kd.C_of_reads (d := (0 : Int)) (h1 := fun _ => rfl) hr1) hc1 (Kd.C_of_reads (d := (0 : Int)) (h1 := fun _ => rfl) hr2) hc2 h ⟨rfl⟩).mono ?_
 rintro e w' ⟨rfl, hd⟩
 exact ⟨rfl, hd⟩

end Go.Proofs.Ytnmhdeibjglhcaa.XMaxplusRaw
