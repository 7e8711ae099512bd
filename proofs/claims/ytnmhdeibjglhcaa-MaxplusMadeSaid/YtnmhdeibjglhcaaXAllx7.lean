-- This session's own text, written by wip/tools/xall.py after the form of the kit's print.
import Derived.Test.YtnmhdeibjglhcaaXAllx0
import Derived.Test.YtnmhdeibjglhcaaXAllx2
import Derived.Test.YtnmhdeibjglhcaaXAllx6
namespace Go.Proofs.Ytnmhdeibjglhcaa.XAll
open Go.RowKit Go.Proofs.YtnmhdeibjglhcaaW.PrintWords Go.Proofs.YtnmhdeibjglhcaaW.PrintLast Go.Proofs.YtnmhdeibjglhcaaW.PrintMore
attribute [local go_sem] max2_int min2_int max_two min_two max_three min_three max_four min_four   -- for this text's walks alone
set_option linter.unusedVariables false
set_option linter.unusedSimpArgs false

/-! ### arith_Gcd: function 45 -/
mutual
def arith_Gcd.j0 : Nat → Int → Int → Bool → Option (Int × Int)
 | 0, _, _, _ => none
 | k + 1, x0, x1, x11 => if x11 = true then (some (0, 1)) else (arith_Gcd.l0 k x0 x1)
def arith_Gcd.l0 : Nat → Int → Int → Option (Int × Int)
 | 0, _, _ => none
 | k + 1, x0, x1 => if x1 > 0 then (if x1 = 0 then (none) else (arith_Gcd.l0 k x1 (Int.tmod x0 x1))) else (some (x0, 0))
end
def arith_Gcd.f (k : Nat) (a0 : Int) (a1 : Int) : Option (Int × Int) := if a0 < 0 then (arith_Gcd.j0 k a0 a1 true) else (arith_Gcd.j0 k a0 a1 (decide (a1 < 0)))
theorem arith_Gcd.mono_l : ∀ k, (∀ y0 y1 y2, LeO (arith_Gcd.j0 k y0 y1 y2) (arith_Gcd.j0 (k + 1) y0 y1 y2)) ∧ (∀ y0 y1, LeO (arith_Gcd.l0 k y0 y1) (arith_Gcd.l0 (k + 1) y0 y1))
 | 0 => ⟨fun _ _ _ r h => by simp [arith_Gcd.j0] at h, fun _ _ r h => by simp [arith_Gcd.l0] at h⟩
 | k + 1 => by
  obtain ⟨ih0, ih1⟩ := arith_Gcd.mono_l k
  refine ⟨?_, ?_⟩
  ·intro y0 y1 y2
   unfold arith_Gcd.j0
   repeat' first
   | (with_reducible exact ih0 _ _ _)
   | (with_reducible exact ih1 _ _)
   | (with_reducible exact LeO.refl _)
   | (with_reducible exact LeO.none _)
   | (with_reducible refine LeO.ite ?_ ?_)
   | (with_reducible refine LeO.bind ?_ (fun _ => ?_))
   | exact ih0 _ _ _
   | exact ih1 _ _
   | exact LeO.none _
   | refine LeO.ite ?_ ?_
   | refine LeO.bind ?_ (fun _ => ?_)
  ·intro y0 y1
   unfold arith_Gcd.l0
   repeat' first
   | (with_reducible exact ih0 _ _ _)
   | (with_reducible exact ih1 _ _)
   | (with_reducible exact LeO.refl _)
   | (with_reducible exact LeO.none _)
   | (with_reducible refine LeO.ite ?_ ?_)
   | (with_reducible refine LeO.bind ?_ (fun _ => ?_))
   | exact ih0 _ _ _
   | exact ih1 _ _
   | exact LeO.none _
   | refine LeO.ite ?_ ?_
   | refine LeO.bind ?_ (fun _ => ?_)
theorem arith_Gcd.mono : ∀ a0 a1 k, LeO (arith_Gcd.f k a0 a1) (arith_Gcd.f (k + 1) a0 a1) := by
 intro a0 a1 k
 obtain ⟨ih0, ih1⟩ := arith_Gcd.mono_l k
 unfold arith_Gcd.f
 repeat' first
   | (with_reducible exact ih0 _ _ _)
   | (with_reducible exact ih1 _ _)
   | (with_reducible exact LeO.refl _)
   | (with_reducible exact LeO.none _)
   | (with_reducible refine LeO.ite ?_ ?_)
   | (with_reducible refine LeO.bind ?_ (fun _ => ?_))
   | exact ih0 _ _ _
   | exact ih1 _ _
   | exact LeO.none _
   | refine LeO.ite ?_ ?_
   | refine LeO.bind ?_ (fun _ => ?_)
set_option maxHeartbeats 8000000 in
set_option maxRecDepth 100000 in
theorem arith_Gcd.calls (k : Nat) (a0 : Int) (a1 : Int) (r1 : Int) (r2 : Int) (w : World) (h : arith_Gcd.f k a0 a1 = some (r1, r2)) :
  Calls Try.prog 45 #[.int .i64 a0, .int .i64 a1] w fun e w' => e = .returned (.tuple #[.int .i64 r1, .int .i64 r2]) ∧ Drawn0 w w' := by
 have H : (if a0 < 0 then (arith_Gcd.j0 k a0 a1 true) else (arith_Gcd.j0 k a0 a1 (decide (a1 < 0)))) = some (r1, r2) := h
 clear h
 have HC3 := Aside0.mk H
 clear H
 go_enter Try.func45, Try.ntmps45
 go_upto_region 1 with (fail)
 repeat (go_quiet (fail); go_upto_region 1 with (fail))
 go_cut [11] (fun v11 wc => ∃ (kq : Nat) (x11_2 : Bool), v11 = .bool x11_2 ∧ Aside0 (arith_Gcd.j0 kq a0 a1 x11_2 = some (r1, r2)) ∧ Aside0 (kq ≤ k) ∧ Drawn0 w wc)
 case first =>
  have H := HC3.out
  clear HC3
  by_cases c4 : a0 < 0
  ·rw [if_pos c4] at H
   have c4b0 : decide (a0 < 0) = true := decide_eq_true c4
   clear c4
   (first | rw [c4b0] | (simp only [i64_w, i32_w]; rw [c4b0]) | skip)
   have H' := Aside0.mk H
   clear H
   go_wp2
   repeat (go_quiet (fail); try go_wp2)
   go_meet
   case rel => exact ⟨_, (true), (by first | rfl | (simp; done) | (simp [*]; done)), H', ⟨by first | omega | exact Nat.le_refl _⟩, by repeat (first | exact Drawn0.refl _ | apply Drawn0.step)⟩
  ·rw [if_neg c4] at H
   have c4b0 : decide (a0 < 0) = false := decide_eq_false c4
   clear c4
   (first | rw [c4b0] | (simp only [i64_w, i32_w]; rw [c4b0]) | skip)
   have H' := Aside0.mk H
   clear H
   go_wp2
   repeat (go_quiet (fail); try go_wp2)
   go_meet
   case rel => exact ⟨_, (decide (a1 < 0)), (by first | rfl | (simp; done) | (simp [*]; done)), H', ⟨by first | omega | exact Nat.le_refl _⟩, by repeat (first | exact Drawn0.refl _ | apply Drawn0.step)⟩
 case rest =>
  clear HC3
  try clear p2
  try clear c4
  try clear c4b0
  obtain ⟨kq, x11_2, rfl, HA, HJ2, ⟨mc2, rfl⟩⟩ := hcut
  cases kq with
  | zero => exact absurd HA.out (by simp [arith_Gcd.j0])
  | succ kj2 =>
   have H := HA.out
   clear HA
   simp only [arith_Gcd.j0] at H
   by_cases c5 : x11_2 = true
   ·subst c5
    have H1 : (some (0, 1)) = some (r1, r2) := by rw [if_pos rfl] at H; exact H
    clear H
    have H := H1
    clear H1
    simp only [Option.some.injEq, Prod.mk.injEq] at H
    obtain ⟨rfl, rfl⟩ := H
    go_wp2
    repeat (go_quiet (fail); try go_wp2)
    go_ret2
    exact ⟨by first | rfl | (simp; done) | (simp [*]; done), by repeat (first | exact Drawn0.refl _ | apply Drawn0.step)⟩
   ·replace c5 := Bool.eq_false_iff.mpr c5
    subst c5
    have H1 : (arith_Gcd.l0 kj2 a0 a1) = some (r1, r2) := by rw [if_neg (show ¬ (false = true) by decide)] at H; exact H
    clear H
    have H := H1
    clear H1
    have H' := Aside0.mk H
    clear H
    go_wp2
    repeat (go_quiet (fail); try go_wp2)
    go_loopg [0, 1] kj2 (fun kq v0 v1 w' => ∃ (x0_2 : Int) (x1_2 : Int), v0 = .int .i64 x0_2 ∧ v1 = .int .i64 x1_2 ∧ Aside0 (arith_Gcd.l0 kq x0_2 x1_2 = some (r1, r2)) ∧ Aside0 (kq ≤ kj2) ∧ Drawn0 w w')
    case atStart => exact ⟨(a0), (a1), (by first | rfl | (simp; done) | (simp [*]; done)), (by first | rfl | (simp; done) | (simp [*]; done)), H', ⟨Nat.le_refl _⟩, by repeat (first | exact Drawn0.refl _ | apply Drawn0.step)⟩
    case round =>
     clear H'
     try clear c2
     try clear p2
     try clear c4
     try clear c4b0
     try clear c5
     try clear p2
     obtain ⟨x0_2, x1_2, rfl, rfl, HA, HK2, ⟨m2, rfl⟩⟩ := hrel
     cases gk with
     | zero => exact absurd HA.out (by simp [arith_Gcd.l0])
     | succ k2 =>
      have H := HA.out
      clear HA
      simp only [arith_Gcd.l0] at H
      by_cases c6 : x1_2 > 0
      ·rw [if_pos c6] at H
       have c6b0 : decide (0 < x1_2) = true := decide_eq_true c6
       clear c6
       by_cases c7 : x1_2 = 0
       ·rw [if_pos c7] at H
        exact absurd H (by simp)
       ·rw [if_neg c7] at H
        have c7b0 : (x1_2 == 0) = false := beq_eq_false_iff_ne.mpr c7
        have c7b1 : (x1_2 != 0) = true := bne_iff_ne.mpr c7
        have H' := Aside0.mk H
        clear H
        go_wp2
        repeat (go_quiet (fail); try go_wp2)
        go_roundg k2
        case measure => have := HJ2.out; have := HK2.out; omega
        case rel => exact ⟨(x1_2), (Int.tmod x0_2 x1_2), (by first | rfl | (simp; done) | (simp [*]; done)), (by first | rfl | (simp; done) | (simp [*]; done)), H', ⟨by have := HJ2.out; have := HK2.out; omega⟩, by repeat (first | exact Drawn0.refl _ | apply Drawn0.step)⟩
      ·rw [if_neg c6] at H
       have c6b0 : decide (0 < x1_2) = false := decide_eq_false c6
       clear c6
       simp only [Option.some.injEq, Prod.mk.injEq] at H
       obtain ⟨rfl, rfl⟩ := H
       go_wp2
       repeat (go_quiet (fail); try go_wp2)
       go_ret2
       exact ⟨by first | rfl | (simp; done) | (simp [*]; done), by repeat (first | exact Drawn0.refl _ | apply Drawn0.step)⟩

/-! ### maxplus_Mean: function 20 -/
def maxplus_Mean.l0 : Nat → Int → Int → List Int → Int → Int → Option (Int × Int × Bool)
 | 0, _, _, _, _, _ => none
 | k + 1, x5, x6, x15, x16, x17 => if x17 < x16 then (if 0 ≤ x17 then (if x17 < (x15.length : Int) then (if x17 > 0 then (if (rd x15 x17) = (-1125899906842624) then (maxplus_Mean.l0 k x5 x6 x15 x16 (wrap64 (x17 + 1))) else (if x6 = 0 then (maxplus_Mean.l0 k (rd x15 x17) x17 x15 x16 (wrap64 (x17 + 1))) else (if (wrap64 ((rd x15 x17) * x6)) > (wrap64 (x5 * x17)) then (maxplus_Mean.l0 k (rd x15 x17) x17 x15 x16 (wrap64 (x17 + 1))) else (maxplus_Mean.l0 k x5 x6 x15 x16 (wrap64 (x17 + 1)))))) else (maxplus_Mean.l0 k x5 x6 x15 x16 (wrap64 (x17 + 1)))) else (none)) else (none)) else (if x6 = 0 then (some (0, 0, false)) else ((arith_Gcd.f k (mx x5 (wrap64 (-x5))) x6).bind fun bt194 => (if bt194.2 = 0 then (if bt194.1 > 0 then (if bt194.1 = 0 then (none) else (some (wrap64 (Int.tdiv x5 bt194.1), wrap64 (Int.tdiv x6 bt194.1), true))) else (some (x5, x6, true))) else (some (x5, x6, true)))))
def maxplus_Mean.f (k : Nat) (l0 : List (List Int)) : Option (Int × Int × Bool) := (maxplus_Check.f k l0).bind fun t189 => (if t189 = true then ((maxplus_closed.f k l0).bind fun t190 => (maxplus_Mean.l0 k 0 0 t190 (t190.length : Int) 0)) else (some (0, 0, false)))
theorem maxplus_Mean.mono_l : ∀ k, (∀ y0 y1 y2 y3 y4, LeO (maxplus_Mean.l0 k y0 y1 y2 y3 y4) (maxplus_Mean.l0 (k + 1) y0 y1 y2 y3 y4))
 | 0 => fun _ _ _ _ _ r h => by simp [maxplus_Mean.l0] at h
 | k + 1 => by
  have ih0 := maxplus_Mean.mono_l k
  ·intro y0 y1 y2 y3 y4
   unfold maxplus_Mean.l0
   repeat' first
   | (with_reducible exact ih0 _ _ _ _ _)
   | (with_reducible exact arith_Gcd.mono _ _ _)
   | (with_reducible exact maxplus_Check.mono _ _)
   | (with_reducible exact maxplus_closed.mono _ _)
   | (with_reducible exact LeO.refl _)
   | (with_reducible exact LeO.none _)
   | (with_reducible refine LeO.ite ?_ ?_)
   | (with_reducible refine LeO.bind ?_ (fun _ => ?_))
   | exact ih0 _ _ _ _ _
   | exact arith_Gcd.mono _ _ _
   | exact maxplus_Check.mono _ _
   | exact maxplus_closed.mono _ _
   | exact LeO.none _
   | refine LeO.ite ?_ ?_
   | refine LeO.bind ?_ (fun _ => ?_)
theorem maxplus_Mean.mono : ∀ a0 k, LeO (maxplus_Mean.f k a0) (maxplus_Mean.f (k + 1) a0) := by
 intro a0 k
 have ih0 := maxplus_Mean.mono_l k
 unfold maxplus_Mean.f
 repeat' first
   | (with_reducible exact ih0 _ _ _ _ _)
   | (with_reducible exact arith_Gcd.mono _ _ _)
   | (with_reducible exact maxplus_Check.mono _ _)
   | (with_reducible exact maxplus_closed.mono _ _)
   | (with_reducible exact LeO.refl _)
   | (with_reducible exact LeO.none _)
   | (with_reducible refine LeO.ite ?_ ?_)
   | (with_reducible refine LeO.bind ?_ (fun _ => ?_))
   | exact ih0 _ _ _ _ _
   | exact arith_Gcd.mono _ _ _
   | exact maxplus_Check.mono _ _
   | exact maxplus_closed.mono _ _
   | exact LeO.none _
   | refine LeO.ite ?_ ?_
   | refine LeO.bind ?_ (fun _ => ?_)
set_option maxHeartbeats 8000000 in
set_option maxRecDepth 100000 in
theorem maxplus_Mean.calls (k : Nat) (A0 : Option Addr) (c0 : Nat) (l0 : List (List Int)) (r1 : Int) (r2 : Int) (r3 : Bool) (w : World) (hr0 : Kd.C (Kd.slice 3 (Kd.int .i64)) w A0 l0.length l0) (hc0 : l0.length ≤ c0) (h : maxplus_Mean.f k l0 = some (r1, r2, r3)) :
  Calls Try.prog 20 #[.slice A0 l0.length c0] w fun e w' => e = .returned (.tuple #[.int .i64 r1, .int .i64 r2, .bool r3]) ∧ Below w.heap.size w w' := by
 have HR0 := Aside0.mk hr0
 have HC0 := Aside0.mk hc0
 clear hr0 hc0
 have HB := Aside0.mk (Below.refl w.heap.size w)
 have H : ((maxplus_Check.f k l0).bind fun t189 => (if t189 = true then ((maxplus_closed.f k l0).bind fun t190 => (maxplus_Mean.l0 k 0 0 t190 (t190.length : Int) 0)) else (some (0, 0, false)))) = some (r1, r2, r3) := h
 clear h
 replace H := Option.bind_eq_some_iff.mp H
 obtain ⟨t189, A20, H⟩ := H
 replace H : (if t189 = true then ((maxplus_closed.f k l0).bind fun t190 => (maxplus_Mean.l0 k 0 0 t190 (t190.length : Int) 0)) else (some (0, 0, false))) = some (r1, r2, r3) := H
 have A2 := Aside0.mk A20
 clear A20
 by_cases c3 : t189 = true
 ·subst c3
  have H1 : ((maxplus_closed.f k l0).bind fun t190 => (maxplus_Mean.l0 k 0 0 t190 (t190.length : Int) 0)) = some (r1, r2, r3) := by rw [if_pos rfl] at H; exact H
  clear H
  have H := H1
  clear H1
  replace H := Option.bind_eq_some_iff.mp H
  obtain ⟨t190, A40, H⟩ := H
  replace H : (maxplus_Mean.l0 k 0 0 t190 (t190.length : Int) 0) = some (r1, r2, r3) := H
  have A4 := Aside0.mk A40
  clear A40
  have H' := Aside0.mk H
  clear H
  go_enter Try.func20, Try.ntmps20
  go_wp2_with (first | (go_at_call 30; (with_reducible refine (maxplus_Check.calls k _ _ l0 true _ ?side1 ?side2 A2.out).mono ?_); (case side1 => repeat (first | exact HR0.out | (with_reducible refine Kd.C_alloc ?_ _) | (with_reducible refine Kd.C_drewN ?_ _) | (with_reducible refine Kd.C_drew ?_))); (case side2 => exact HC0.out); rintro e w' ⟨rfl, ⟨nd, rfl⟩⟩; (try first | exact ⟨rfl, _, World.drewN_drewN _ _ _⟩ | exact ⟨rfl, _, Eq.trans (World.drewN_drewN _ _ _) (congrArg (World.drewN _) (Nat.add_assoc _ _ _))⟩)) | (go_at_call 44; (with_reducible refine (maxplus_closed.calls k (fun k_ => k_ < w.heap.size) _ _ l0 t190 _ ?side1 A4.out).mono ?_); (case side1 => exact Kd.V_mk HC0.out (Kd.F_below (Kd.C_F (Kd.heap_slice 3 (Kd.heap_int .i64)) HR0.out) (by repeat (first | (with_reducible first | exact HB.out | apply below_alloc | apply pw_below_drewN | apply below_drew1) | exact HB.out)))); rintro e w5 ⟨v191, rfl, ho0, hb⟩; have n0_ := Aside0.mk (Kd.R_lower (Kd.R_mono (ok' := fun k_ => True) ho0 (fun _ hk_ => trivial)) (below_size (by repeat (first | (with_reducible first | exact HB.out | apply below_alloc | apply pw_below_drewN | apply below_drew1) | exact HB.out)))); have n1_ := Aside0.mk (below_step (by repeat (first | (with_reducible first | exact HB.out | apply below_alloc | apply pw_below_drewN | apply below_drew1) | exact HB.out)) hb); clear HB; have HO192 := n0_; have HB := n1_; clear n0_ n1_; (try clear hb); (try clear hb2); (try clear hk); (try clear hi); (try clear ho0); obtain ⟨Ao6, co6, eo6⟩ := Kd.R_slice HO192.out; subst eo6))
  repeat (go_quiet (first | (go_at_call 30; (with_reducible refine (maxplus_Check.calls k _ _ l0 true _ ?side1 ?side2 A2.out).mono ?_); (case side1 => repeat (first | exact HR0.out | (with_reducible refine Kd.C_alloc ?_ _) | (with_reducible refine Kd.C_drewN ?_ _) | (with_reducible refine Kd.C_drew ?_))); (case side2 => exact HC0.out); rintro e w' ⟨rfl, ⟨nd, rfl⟩⟩; (try first | exact ⟨rfl, _, World.drewN_drewN _ _ _⟩ | exact ⟨rfl, _, Eq.trans (World.drewN_drewN _ _ _) (congrArg (World.drewN _) (Nat.add_assoc _ _ _))⟩)) | (go_at_call 44; (with_reducible refine (maxplus_closed.calls k (fun k_ => k_ < w.heap.size) _ _ l0 t190 _ ?side1 A4.out).mono ?_); (case side1 => exact Kd.V_mk HC0.out (Kd.F_below (Kd.C_F (Kd.heap_slice 3 (Kd.heap_int .i64)) HR0.out) (by repeat (first | (with_reducible first | exact HB.out | apply below_alloc | apply pw_below_drewN | apply below_drew1) | exact HB.out)))); rintro e w5 ⟨v191, rfl, ho0, hb⟩; have n0_ := Aside0.mk (Kd.R_lower (Kd.R_mono (ok' := fun k_ => True) ho0 (fun _ hk_ => trivial)) (below_size (by repeat (first | (with_reducible first | exact HB.out | apply below_alloc | apply pw_below_drewN | apply below_drew1) | exact HB.out)))); have n1_ := Aside0.mk (below_step (by repeat (first | (with_reducible first | exact HB.out | apply below_alloc | apply pw_below_drewN | apply below_drew1) | exact HB.out)) hb); clear HB; have HO192 := n0_; have HB := n1_; clear n0_ n1_; (try clear hb); (try clear hb2); (try clear hk); (try clear hi); (try clear ho0); obtain ⟨Ao6, co6, eo6⟩ := Kd.R_slice HO192.out; subst eo6)); try go_wp2_with (first | (go_at_call 30; (with_reducible refine (maxplus_Check.calls k _ _ l0 true _ ?side1 ?side2 A2.out).mono ?_); (case side1 => repeat (first | exact HR0.out | (with_reducible refine Kd.C_alloc ?_ _) | (with_reducible refine Kd.C_drewN ?_ _) | (with_reducible refine Kd.C_drew ?_))); (case side2 => exact HC0.out); rintro e w' ⟨rfl, ⟨nd, rfl⟩⟩; (try first | exact ⟨rfl, _, World.drewN_drewN _ _ _⟩ | exact ⟨rfl, _, Eq.trans (World.drewN_drewN _ _ _) (congrArg (World.drewN _) (Nat.add_assoc _ _ _))⟩)) | (go_at_call 44; (with_reducible refine (maxplus_closed.calls k (fun k_ => k_ < w.heap.size) _ _ l0 t190 _ ?side1 A4.out).mono ?_); (case side1 => exact Kd.V_mk HC0.out (Kd.F_below (Kd.C_F (Kd.heap_slice 3 (Kd.heap_int .i64)) HR0.out) (by repeat (first | (with_reducible first | exact HB.out | apply below_alloc | apply pw_below_drewN | apply below_drew1) | exact HB.out)))); rintro e w5 ⟨v191, rfl, ho0, hb⟩; have n0_ := Aside0.mk (Kd.R_lower (Kd.R_mono (ok' := fun k_ => True) ho0 (fun _ hk_ => trivial)) (below_size (by repeat (first | (with_reducible first | exact HB.out | apply below_alloc | apply pw_below_drewN | apply below_drew1) | exact HB.out)))); have n1_ := Aside0.mk (below_step (by repeat (first | (with_reducible first | exact HB.out | apply below_alloc | apply pw_below_drewN | apply below_drew1) | exact HB.out)) hb); clear HB; have HO192 := n0_; have HB := n1_; clear n0_ n1_; (try clear hb); (try clear hb2); (try clear hk); (try clear hi); (try clear ho0); obtain ⟨Ao6, co6, eo6⟩ := Kd.R_slice HO192.out; subst eo6)))
  go_loopg [5, 6, 17] k (fun kq v5 v6 v17 w' => ∃ (x5_1 : Int) (x6_1 : Int) (x17_1 : Int), v5 = .int .i64 x5_1 ∧ v6 = .int .i64 x6_1 ∧ v17 = .int .i64 x17_1 ∧ Aside0 (maxplus_Mean.l0 kq x5_1 x6_1 t190 (t190.length : Int) x17_1 = some (r1, r2, r3)) ∧ Aside0 (kq ≤ k) ∧ Aside0 (Kd.R (Kd.int .i64) 3 w' w.heap.size (fun _ => True) (.slice Ao6 t190.length co6) t190) ∧ Aside0 (Below w.heap.size w w'))
  case atStart => exact ⟨(0), (0), (0), (by first | rfl | (simp; done) | (simp [*]; done)), (by first | rfl | (simp; done) | (simp [*]; done)), (by first | rfl | (simp; done) | (simp [*]; done)), H', ⟨Nat.le_refl _⟩, ⟨by (with_reducible repeat (first | apply Kd.R_alloc | apply Kd.R_drewN | apply Kd.R_drew)); exact HO192.out⟩, ⟨by repeat (first | (with_reducible first | exact HB.out | apply below_alloc | apply pw_below_drewN | apply below_drew1) | exact HB.out)⟩⟩
  case round =>
   clear H'
   try clear c2
   try clear p2
   try clear c3
   obtain ⟨x5_1, x6_1, x17_1, rfl, rfl, rfl, HA, HK1, HO_15, HB⟩ := hrel
   cases gk with
   | zero => exact absurd HA.out (by simp [maxplus_Mean.l0])
   | succ k1 =>
    have H := HA.out
    clear HA
    simp only [maxplus_Mean.l0] at H
    by_cases c7 : x17_1 < (t190.length : Int)
    ·rw [if_pos c7] at H
     have c7b0 : decide (x17_1 < (t190.length : Int)) = true := decide_eq_true c7
     clear c7
     by_cases c8 : 0 ≤ x17_1
     ·rw [if_pos c8] at H
      have c8b0 : decide (0 ≤ x17_1) = true := decide_eq_true c8
      clear c8
      by_cases c9 : x17_1 < (t190.length : Int)
      ·rw [if_pos c9] at H
       have c9b0 : decide (x17_1 < (t190.length : Int)) = true := decide_eq_true c9
       clear c9
       by_cases c10 : x17_1 > 0
       ·rw [if_pos c10] at H
        have c10b0 : decide (0 < x17_1) = true := decide_eq_true c10
        clear c10
        by_cases c11 : (rd t190 x17_1) = (-1125899906842624)
        ·rw [if_pos c11] at H
         have c11b0 : ((rd t190 x17_1) == (-1125899906842624)) = true := beq_iff_eq.mpr c11
         have c11b1 : ((rd t190 x17_1) != (-1125899906842624)) = false := bne_eq_false_iff_eq.mpr c11
         clear c11
         have H' := Aside0.mk H
         clear H
         have p193 : 0 ≤ (x17_1 : Int) := of_decide_eq_true (by first | (with_reducible assumption) | assumption)
         have q193 : x17_1 < (t190.length : Int) := of_decide_eq_true (by first | (with_reducible assumption) | assumption)
         obtain ⟨ad193, e193, hx193_0⟩ := Kd.at_int (Kd.R_reads' HO_15.out).2.2 x17_1 p193 q193
         cases e193
         replace p193 := eq_true p193
         replace q193 := eq_true q193
         go_wp2
         repeat (go_quiet (fail); try go_wp2)
         go_roundg k1
         case measure => have := HK1.out; omega
         case rel => exact ⟨(x5_1), (x6_1), (wrap64 (x17_1 + 1)), (by first | rfl | (simp; done) | (simp [*]; done)), (by first | rfl | (simp; done) | (simp [*]; done)), (by first | rfl | (simp; done) | (simp [*]; done)), H', ⟨by have := HK1.out; omega⟩, ⟨by (with_reducible repeat (first | apply Kd.R_alloc | apply Kd.R_drewN | apply Kd.R_drew)); exact HO_15.out⟩, ⟨by repeat (first | (with_reducible first | exact HB.out | apply below_alloc | apply pw_below_drewN | apply below_drew1) | exact HB.out)⟩⟩
        ·rw [if_neg c11] at H
         have c11b0 : ((rd t190 x17_1) == (-1125899906842624)) = false := beq_eq_false_iff_ne.mpr c11
         have c11b1 : ((rd t190 x17_1) != (-1125899906842624)) = true := bne_iff_ne.mpr c11
         by_cases c12 : x6_1 = 0
         ·rw [if_pos c12] at H
          have c12b0 : (x6_1 == 0) = true := beq_iff_eq.mpr c12
          have c12b1 : (x6_1 != 0) = false := bne_eq_false_iff_eq.mpr c12
          clear c12
          have H' := Aside0.mk H
          clear H
          have p193 : 0 ≤ (x17_1 : Int) := of_decide_eq_true (by first | (with_reducible assumption) | assumption)
          have q193 : x17_1 < (t190.length : Int) := of_decide_eq_true (by first | (with_reducible assumption) | assumption)
          obtain ⟨ad193, e193, hx193_0⟩ := Kd.at_int (Kd.R_reads' HO_15.out).2.2 x17_1 p193 q193
          cases e193
          replace p193 := eq_true p193
          replace q193 := eq_true q193
          go_wp2
          repeat (go_quiet (fail); try go_wp2)
          go_roundg k1
          case measure => have := HK1.out; omega
          case rel => exact ⟨(rd t190 x17_1), (x17_1), (wrap64 (x17_1 + 1)), (by first | rfl | (simp; done) | (simp [*]; done)), (by first | rfl | (simp; done) | (simp [*]; done)), (by first | rfl | (simp; done) | (simp [*]; done)), H', ⟨by have := HK1.out; omega⟩, ⟨by (with_reducible repeat (first | apply Kd.R_alloc | apply Kd.R_drewN | apply Kd.R_drew)); exact HO_15.out⟩, ⟨by repeat (first | (with_reducible first | exact HB.out | apply below_alloc | apply pw_below_drewN | apply below_drew1) | exact HB.out)⟩⟩
         ·rw [if_neg c12] at H
          have c12b0 : (x6_1 == 0) = false := beq_eq_false_iff_ne.mpr c12
          have c12b1 : (x6_1 != 0) = true := bne_iff_ne.mpr c12
          by_cases c13 : (wrap64 ((rd t190 x17_1) * x6_1)) > (wrap64 (x5_1 * x17_1))
          ·rw [if_pos c13] at H
           have c13b0 : decide ((wrap64 (x5_1 * x17_1)) < (wrap64 ((rd t190 x17_1) * x6_1))) = true := decide_eq_true c13
           clear c13
           have H' := Aside0.mk H
           clear H
           have p193 : 0 ≤ (x17_1 : Int) := of_decide_eq_true (by first | (with_reducible assumption) | assumption)
           have q193 : x17_1 < (t190.length : Int) := of_decide_eq_true (by first | (with_reducible assumption) | assumption)
           obtain ⟨ad193, e193, hx193_0⟩ := Kd.at_int (Kd.R_reads' HO_15.out).2.2 x17_1 p193 q193
           cases e193
           replace p193 := eq_true p193
           replace q193 := eq_true q193
           go_wp2
           repeat (go_quiet (fail); try go_wp2)
           go_roundg k1
           case measure => have := HK1.out; omega
           case rel => exact ⟨(rd t190 x17_1), (x17_1), (wrap64 (x17_1 + 1)), (by first | rfl | (simp; done) | (simp [*]; done)), (by first | rfl | (simp; done) | (simp [*]; done)), (by first | rfl | (simp; done) | (simp [*]; done)), H', ⟨by have := HK1.out; omega⟩, ⟨by (with_reducible repeat (first | apply Kd.R_alloc | apply Kd.R_drewN | apply Kd.R_drew)); exact HO_15.out⟩, ⟨by repeat (first | (with_reducible first | exact HB.out | apply below_alloc | apply pw_below_drewN | apply below_drew1) | exact HB.out)⟩⟩
          ·rw [if_neg c13] at H
           have c13b0 : decide ((wrap64 (x5_1 * x17_1)) < (wrap64 ((rd t190 x17_1) * x6_1))) = false := decide_eq_false c13
           clear c13
           have H' := Aside0.mk H
           clear H
           have p193 : 0 ≤ (x17_1 : Int) := of_decide_eq_true (by first | (with_reducible assumption) | assumption)
           have q193 : x17_1 < (t190.length : Int) := of_decide_eq_true (by first | (with_reducible assumption) | assumption)
           obtain ⟨ad193, e193, hx193_0⟩ := Kd.at_int (Kd.R_reads' HO_15.out).2.2 x17_1 p193 q193
           cases e193
           replace p193 := eq_true p193
           replace q193 := eq_true q193
           go_wp2
           repeat (go_quiet (fail); try go_wp2)
           go_roundg k1
           case measure => have := HK1.out; omega
           case rel => exact ⟨(x5_1), (x6_1), (wrap64 (x17_1 + 1)), (by first | rfl | (simp; done) | (simp [*]; done)), (by first | rfl | (simp; done) | (simp [*]; done)), (by first | rfl | (simp; done) | (simp [*]; done)), H', ⟨by have := HK1.out; omega⟩, ⟨by (with_reducible repeat (first | apply Kd.R_alloc | apply Kd.R_drewN | apply Kd.R_drew)); exact HO_15.out⟩, ⟨by repeat (first | (with_reducible first | exact HB.out | apply below_alloc | apply pw_below_drewN | apply below_drew1) | exact HB.out)⟩⟩
       ·rw [if_neg c10] at H
        have c10b0 : decide (0 < x17_1) = false := decide_eq_false c10
        clear c10
        have H' := Aside0.mk H
        clear H
        have p193 : 0 ≤ (x17_1 : Int) := of_decide_eq_true (by first | (with_reducible assumption) | assumption)
        have q193 : x17_1 < (t190.length : Int) := of_decide_eq_true (by first | (with_reducible assumption) | assumption)
        obtain ⟨ad193, e193, hx193_0⟩ := Kd.at_int (Kd.R_reads' HO_15.out).2.2 x17_1 p193 q193
        cases e193
        replace p193 := eq_true p193
        replace q193 := eq_true q193
        go_wp2
        repeat (go_quiet (fail); try go_wp2)
        go_roundg k1
        case measure => have := HK1.out; omega
        case rel => exact ⟨(x5_1), (x6_1), (wrap64 (x17_1 + 1)), (by first | rfl | (simp; done) | (simp [*]; done)), (by first | rfl | (simp; done) | (simp [*]; done)), (by first | rfl | (simp; done) | (simp [*]; done)), H', ⟨by have := HK1.out; omega⟩, ⟨by (with_reducible repeat (first | apply Kd.R_alloc | apply Kd.R_drewN | apply Kd.R_drew)); exact HO_15.out⟩, ⟨by repeat (first | (with_reducible first | exact HB.out | apply below_alloc | apply pw_below_drewN | apply below_drew1) | exact HB.out)⟩⟩
      ·rw [if_neg c9] at H
       exact absurd H (by simp)
     ·rw [if_neg c8] at H
      exact absurd H (by simp)
    ·rw [if_neg c7] at H
     have c7b0 : decide (x17_1 < (t190.length : Int)) = false := decide_eq_false c7
     clear c7
     by_cases c14 : x6_1 = 0
     ·rw [if_pos c14] at H
      have c14b0 : (x6_1 == 0) = true := beq_iff_eq.mpr c14
      have c14b1 : (x6_1 != 0) = false := bne_eq_false_iff_eq.mpr c14
      clear c14
      simp only [Option.some.injEq, Prod.mk.injEq] at H
      obtain ⟨rfl, rfl, rfl⟩ := H
      go_wp2
      repeat (go_quiet (fail); try go_wp2)
      go_ret3
      exact ⟨by first | rfl | (simp [errW_none, errW_some] <;> rfl) | (simp [*, errW_none, errW_some] <;> rfl), by repeat (first | (with_reducible first | exact HB.out | apply below_alloc | apply pw_below_drewN | apply below_drew1) | exact HB.out)⟩
     ·rw [if_neg c14] at H
      have c14b0 : (x6_1 == 0) = false := beq_eq_false_iff_ne.mpr c14
      have c14b1 : (x6_1 != 0) = true := bne_iff_ne.mpr c14
      obtain ⟨ji15, hji15⟩ : ∃ j_ : Int, (mx x5_1 (wrap64 (-x5_1))) = j_ := ⟨_, rfl⟩
      replace H : ((arith_Gcd.f k1 (ji15) x6_1).bind fun bt194 => (if bt194.2 = 0 then (if bt194.1 > 0 then (if bt194.1 = 0 then (none) else (some (wrap64 (Int.tdiv x5_1 bt194.1), wrap64 (Int.tdiv x6_1 bt194.1), true))) else (some (x5_1, x6_1, true))) else (some (x5_1, x6_1, true)))) = some (r1, r2, r3) := by first | (rw [hji15] at H; exact H) | (simp only [hji15] at H ⊢; exact H)
      have hji15_ : (if x5_1 < (wrap64 (-x5_1)) then (wrap64 (-x5_1)) else x5_1) = ji15 := hji15
      replace H := Option.bind_eq_some_iff.mp H
      obtain ⟨⟨t194, t195⟩, A160, H⟩ := H
      replace H : (if t195 = 0 then (if t194 > 0 then (if t194 = 0 then (none) else (some (wrap64 (Int.tdiv x5_1 t194), wrap64 (Int.tdiv x6_1 t194), true))) else (some (x5_1, x6_1, true))) else (some (x5_1, x6_1, true))) = some (r1, r2, r3) := H
      have A16 := Aside0.mk A160
      clear A160
      by_cases c17 : t195 = 0
      ·rw [if_pos c17] at H
       have c17b0 : (t195 == 0) = true := beq_iff_eq.mpr c17
       have c17b1 : (t195 != 0) = false := bne_eq_false_iff_eq.mpr c17
       clear c17
       by_cases c18 : t194 > 0
       ·rw [if_pos c18] at H
        have c18b0 : decide (0 < t194) = true := decide_eq_true c18
        clear c18
        by_cases c19 : t194 = 0
        ·rw [if_pos c19] at H
         exact absurd H (by simp)
        ·rw [if_neg c19] at H
         have c19b0 : (t194 == 0) = false := beq_eq_false_iff_ne.mpr c19
         have c19b1 : (t194 != 0) = true := bne_iff_ne.mpr c19
         simp only [Option.some.injEq, Prod.mk.injEq] at H
         obtain ⟨rfl, rfl, rfl⟩ := H
         go_wp2_with (first | (go_at_call 45; (with_reducible refine (arith_Gcd.calls k1 ji15 x6_1 t194 t195 _ A16.out).mono ?_); rintro e w' ⟨rfl, ⟨nd, rfl⟩⟩; (try first | exact ⟨rfl, _, World.drewN_drewN _ _ _⟩ | exact ⟨rfl, _, Eq.trans (World.drewN_drewN _ _ _) (congrArg (World.drewN _) (Nat.add_assoc _ _ _))⟩)))
         repeat (go_quiet (first | (go_at_call 45; (with_reducible refine (arith_Gcd.calls k1 ji15 x6_1 t194 t195 _ A16.out).mono ?_); rintro e w' ⟨rfl, ⟨nd, rfl⟩⟩; (try first | exact ⟨rfl, _, World.drewN_drewN _ _ _⟩ | exact ⟨rfl, _, Eq.trans (World.drewN_drewN _ _ _) (congrArg (World.drewN _) (Nat.add_assoc _ _ _))⟩))); try go_wp2_with (first | (go_at_call 45; (with_reducible refine (arith_Gcd.calls k1 ji15 x6_1 t194 t195 _ A16.out).mono ?_); rintro e w' ⟨rfl, ⟨nd, rfl⟩⟩; (try first | exact ⟨rfl, _, World.drewN_drewN _ _ _⟩ | exact ⟨rfl, _, Eq.trans (World.drewN_drewN _ _ _) (congrArg (World.drewN _) (Nat.add_assoc _ _ _))⟩))))
         go_ret3
         exact ⟨by first | rfl | (simp [errW_none, errW_some] <;> rfl) | (simp only [← hji15]; first | rfl | (simp [errW_none, errW_some] <;> rfl)) | (simp [*, errW_none, errW_some] <;> rfl), by repeat (first | (with_reducible first | exact HB.out | apply below_alloc | apply pw_below_drewN | apply below_drew1) | exact HB.out)⟩
       ·rw [if_neg c18] at H
        have c18b0 : decide (0 < t194) = false := decide_eq_false c18
        clear c18
        simp only [Option.some.injEq, Prod.mk.injEq] at H
        obtain ⟨rfl, rfl, rfl⟩ := H
        go_wp2_with (first | (go_at_call 45; (with_reducible refine (arith_Gcd.calls k1 ji15 x6_1 t194 t195 _ A16.out).mono ?_); rintro e w' ⟨rfl, ⟨nd, rfl⟩⟩; (try first | exact ⟨rfl, _, World.drewN_drewN _ _ _⟩ | exact ⟨rfl, _, Eq.trans (World.drewN_drewN _ _ _) (congrArg (World.drewN _) (Nat.add_assoc _ _ _))⟩)))
        repeat (go_quiet (first | (go_at_call 45; (with_reducible refine (arith_Gcd.calls k1 ji15 x6_1 t194 t195 _ A16.out).mono ?_); rintro e w' ⟨rfl, ⟨nd, rfl⟩⟩; (try first | exact ⟨rfl, _, World.drewN_drewN _ _ _⟩ | exact ⟨rfl, _, Eq.trans (World.drewN_drewN _ _ _) (congrArg (World.drewN _) (Nat.add_assoc _ _ _))⟩))); try go_wp2_with (first | (go_at_call 45; (with_reducible refine (arith_Gcd.calls k1 ji15 x6_1 t194 t195 _ A16.out).mono ?_); rintro e w' ⟨rfl, ⟨nd, rfl⟩⟩; (try first | exact ⟨rfl, _, World.drewN_drewN _ _ _⟩ | exact ⟨rfl, _, Eq.trans (World.drewN_drewN _ _ _) (congrArg (World.drewN _) (Nat.add_assoc _ _ _))⟩))))
        go_ret3
        exact ⟨by first | rfl | (simp [errW_none, errW_some] <;> rfl) | (simp only [← hji15]; first | rfl | (simp [errW_none, errW_some] <;> rfl)) | (simp [*, errW_none, errW_some] <;> rfl), by repeat (first | (with_reducible first | exact HB.out | apply below_alloc | apply pw_below_drewN | apply below_drew1) | exact HB.out)⟩
      ·rw [if_neg c17] at H
       have c17b0 : (t195 == 0) = false := beq_eq_false_iff_ne.mpr c17
       have c17b1 : (t195 != 0) = true := bne_iff_ne.mpr c17
       simp only [Option.some.injEq, Prod.mk.injEq] at H
       obtain ⟨rfl, rfl, rfl⟩ := H
       go_wp2_with (first | (go_at_call 45; (with_reducible refine (arith_Gcd.calls k1 ji15 x6_1 t194 t195 _ A16.out).mono ?_); rintro e w' ⟨rfl, ⟨nd, rfl⟩⟩; (try first | exact ⟨rfl, _, World.drewN_drewN _ _ _⟩ | exact ⟨rfl, _, Eq.trans (World.drewN_drewN _ _ _) (congrArg (World.drewN _) (Nat.add_assoc _ _ _))⟩)))
       repeat (go_quiet (first | (go_at_call 45; (with_reducible refine (arith_Gcd.calls k1 ji15 x6_1 t194 t195 _ A16.out).mono ?_); rintro e w' ⟨rfl, ⟨nd, rfl⟩⟩; (try first | exact ⟨rfl, _, World.drewN_drewN _ _ _⟩ | exact ⟨rfl, _, Eq.trans (World.drewN_drewN _ _ _) (congrArg (World.drewN _) (Nat.add_assoc _ _ _))⟩))); try go_wp2_with (first | (go_at_call 45; (with_reducible refine (arith_Gcd.calls k1 ji15 x6_1 t194 t195 _ A16.out).mono ?_); rintro e w' ⟨rfl, ⟨nd, rfl⟩⟩; (try first | exact ⟨rfl, _, World.drewN_drewN _ _ _⟩ | exact ⟨rfl, _, Eq.trans (World.drewN_drewN _ _ _) (congrArg (World.drewN _) (Nat.add_assoc _ _ _))⟩))))
       go_ret3
       exact ⟨by first | rfl | (simp [errW_none, errW_some] <;> rfl) | (simp only [← hji15]; first | rfl | (simp [errW_none, errW_some] <;> rfl)) | (simp [*, errW_none, errW_some] <;> rfl), by repeat (first | (with_reducible first | exact HB.out | apply below_alloc | apply pw_below_drewN | apply below_drew1) | exact HB.out)⟩
 ·replace c3 := Bool.eq_false_iff.mpr c3
  subst c3
  have H1 : (some (0, 0, false)) = some (r1, r2, r3) := by rw [if_neg (show ¬ (false = true) by decide)] at H; exact H
  clear H
  have H := H1
  clear H1
  simp only [Option.some.injEq, Prod.mk.injEq] at H
  obtain ⟨rfl, rfl, rfl⟩ := H
  go_enter Try.func20, Try.ntmps20
  go_wp2_with (first | (go_at_call 30; (with_reducible refine (maxplus_Check.calls k _ _ l0 false _ ?side1 ?side2 A2.out).mono ?_); (case side1 => repeat (first | exact HR0.out | (with_reducible refine Kd.C_alloc ?_ _) | (with_reducible refine Kd.C_drewN ?_ _) | (with_reducible refine Kd.C_drew ?_))); (case side2 => exact HC0.out); rintro e w' ⟨rfl, ⟨nd, rfl⟩⟩; (try first | exact ⟨rfl, _, World.drewN_drewN _ _ _⟩ | exact ⟨rfl, _, Eq.trans (World.drewN_drewN _ _ _) (congrArg (World.drewN _) (Nat.add_assoc _ _ _))⟩)))
  repeat (go_quiet (first | (go_at_call 30; (with_reducible refine (maxplus_Check.calls k _ _ l0 false _ ?side1 ?side2 A2.out).mono ?_); (case side1 => repeat (first | exact HR0.out | (with_reducible refine Kd.C_alloc ?_ _) | (with_reducible refine Kd.C_drewN ?_ _) | (with_reducible refine Kd.C_drew ?_))); (case side2 => exact HC0.out); rintro e w' ⟨rfl, ⟨nd, rfl⟩⟩; (try first | exact ⟨rfl, _, World.drewN_drewN _ _ _⟩ | exact ⟨rfl, _, Eq.trans (World.drewN_drewN _ _ _) (congrArg (World.drewN _) (Nat.add_assoc _ _ _))⟩))); try go_wp2_with (first | (go_at_call 30; (with_reducible refine (maxplus_Check.calls k _ _ l0 false _ ?side1 ?side2 A2.out).mono ?_); (case side1 => repeat (first | exact HR0.out | (with_reducible refine Kd.C_alloc ?_ _) | (with_reducible refine Kd.C_drewN ?_ _) | (with_reducible refine Kd.C_drew ?_))); (case side2 => exact HC0.out); rintro e w' ⟨rfl, ⟨nd, rfl⟩⟩; (try first | exact ⟨rfl, _, World.drewN_drewN _ _ _⟩ | exact ⟨rfl, _, Eq.trans (World.drewN_drewN _ _ _) (congrArg (World.drewN _) (Nat.add_assoc _ _ _))⟩))))
  go_ret3
  exact ⟨by first | rfl | (simp [errW_none, errW_some] <;> rfl) | (simp [*, errW_none, errW_some] <;> rfl), by repeat (first | (with_reducible first | exact HB.out | apply below_alloc | apply pw_below_drewN | apply below_drew1) | exact HB.out)⟩

/-! ### maxplus_none: function 46 -/
def maxplus_none.l0 : Nat → List Int → Int → Int → Option (Bool)
 | 0, _, _, _ => none
 | k + 1, x5, x6, x7 => if x7 < x6 then (if 0 ≤ x7 then (if x7 < (x5.length : Int) then (if (rd x5 x7) = 0 then (maxplus_none.l0 k x5 x6 (wrap64 (x7 + 1))) else (some false)) else (none)) else (none)) else (some true)
def maxplus_none.f (k : Nat) (l0 : List Int) : Option (Bool) := maxplus_none.l0 k l0 (l0.length : Int) 0
theorem maxplus_none.mono_l : ∀ k, (∀ y0 y1 y2, LeO (maxplus_none.l0 k y0 y1 y2) (maxplus_none.l0 (k + 1) y0 y1 y2))
 | 0 => fun _ _ _ r h => by simp [maxplus_none.l0] at h
 | k + 1 => by
  have ih0 := maxplus_none.mono_l k
  ·intro y0 y1 y2
   unfold maxplus_none.l0
   repeat' first
   | (with_reducible exact ih0 _ _ _)
   | (with_reducible exact LeO.refl _)
   | (with_reducible exact LeO.none _)
   | (with_reducible refine LeO.ite ?_ ?_)
   | (with_reducible refine LeO.bind ?_ (fun _ => ?_))
   | exact ih0 _ _ _
   | exact LeO.none _
   | refine LeO.ite ?_ ?_
   | refine LeO.bind ?_ (fun _ => ?_)
theorem maxplus_none.mono : ∀ a0 k, LeO (maxplus_none.f k a0) (maxplus_none.f (k + 1) a0) := by
 intro a0 k
 have ih0 := maxplus_none.mono_l k
 unfold maxplus_none.f
 repeat' first
   | (with_reducible exact ih0 _ _ _)
   | (with_reducible exact LeO.refl _)
   | (with_reducible exact LeO.none _)
   | (with_reducible refine LeO.ite ?_ ?_)
   | (with_reducible refine LeO.bind ?_ (fun _ => ?_))
   | exact ih0 _ _ _
   | exact LeO.none _
   | refine LeO.ite ?_ ?_
   | refine LeO.bind ?_ (fun _ => ?_)
set_option maxHeartbeats 8000000 in
set_option maxRecDepth 100000 in
theorem maxplus_none.calls (k : Nat) (A0 : Option Addr) (c0 : Nat) (l0 : List Int) (r : Bool) (w : World) (hr0 : Kd.C (Kd.int .i64) w A0 l0.length l0) (hc0 : l0.length ≤ c0) (h : maxplus_none.f k l0 = some r) :
  Calls Try.prog 46 #[.slice A0 l0.length c0] w fun e w' => e = .returned (.bool r) ∧ Drawn0 w w' := by
 have HR0 := Aside0.mk hr0
 have HC0 := Aside0.mk hc0
 clear hr0 hc0
 have H : (maxplus_none.l0 k l0 (l0.length : Int) 0) = some r := h
 clear h
 have H' := Aside0.mk H
 clear H
 go_enter Try.func46, Try.ntmps46
 go_wp2
 go_loopg [7] k (fun kq v7 w' => ∃ (x7_1 : Int), v7 = .int .i64 x7_1 ∧ Aside0 (maxplus_none.l0 kq l0 (l0.length : Int) x7_1 = some r) ∧ Aside0 (kq ≤ k) ∧ Drawn0 w w')
 case atStart => exact ⟨(0), (by first | rfl | (simp; done) | (simp [*]; done)), H', ⟨Nat.le_refl _⟩, by repeat (first | exact Drawn0.refl _ | apply Drawn0.step)⟩
 case round =>
  clear H'
  obtain ⟨x7_1, rfl, HA, HK1, ⟨m1, rfl⟩⟩ := hrel
  cases gk with
  | zero => exact absurd HA.out (by simp [maxplus_none.l0])
  | succ k1 =>
   have H := HA.out
   clear HA
   simp only [maxplus_none.l0] at H
   by_cases c2 : x7_1 < (l0.length : Int)
   ·rw [if_pos c2] at H
    have c2b0 : decide (x7_1 < (l0.length : Int)) = true := decide_eq_true c2
    clear c2
    by_cases c3 : 0 ≤ x7_1
    ·rw [if_pos c3] at H
     have c3b0 : decide (0 ≤ x7_1) = true := decide_eq_true c3
     clear c3
     by_cases c4 : x7_1 < (l0.length : Int)
     ·rw [if_pos c4] at H
      have c4b0 : decide (x7_1 < (l0.length : Int)) = true := decide_eq_true c4
      clear c4
      by_cases c5 : (rd l0 x7_1) = 0
      ·rw [if_pos c5] at H
       have c5b0 : ((rd l0 x7_1) == 0) = true := beq_iff_eq.mpr c5
       have c5b1 : ((rd l0 x7_1) != 0) = false := bne_eq_false_iff_eq.mpr c5
       clear c5
       have H' := Aside0.mk H
       clear H
       have p196 : 0 ≤ (x7_1 : Int) := of_decide_eq_true (by first | (with_reducible assumption) | assumption)
       have q196 : x7_1 < (l0.length : Int) := of_decide_eq_true (by first | (with_reducible assumption) | assumption)
       obtain ⟨ad196, e196, hx196_0⟩ := Kd.at_int HR0.out x7_1 p196 q196
       cases e196
       replace p196 := eq_true p196
       replace q196 := eq_true q196
       go_wp2
       go_roundg k1
       case measure => have := HK1.out; omega
       case rel => exact ⟨(wrap64 (x7_1 + 1)), (by first | rfl | (simp; done) | (simp [*]; done)), H', ⟨by have := HK1.out; omega⟩, by repeat (first | exact Drawn0.refl _ | apply Drawn0.step)⟩
      ·rw [if_neg c5] at H
       have c5b0 : ((rd l0 x7_1) == 0) = false := beq_eq_false_iff_ne.mpr c5
       have c5b1 : ((rd l0 x7_1) != 0) = true := bne_iff_ne.mpr c5
       obtain rfl := Option.some.inj H
       have p196 : 0 ≤ (x7_1 : Int) := of_decide_eq_true (by first | (with_reducible assumption) | assumption)
       have q196 : x7_1 < (l0.length : Int) := of_decide_eq_true (by first | (with_reducible assumption) | assumption)
       obtain ⟨ad196, e196, hx196_0⟩ := Kd.at_int HR0.out x7_1 p196 q196
       cases e196
       replace p196 := eq_true p196
       replace q196 := eq_true q196
       go_wp2
       go_ret
       exact ⟨by first | rfl | (simp; done) | (simp [*]; done), by repeat (first | exact Drawn0.refl _ | apply Drawn0.step)⟩
     ·rw [if_neg c4] at H
      exact absurd H (by simp)
    ·rw [if_neg c3] at H
     exact absurd H (by simp)
   ·rw [if_neg c2] at H
    have c2b0 : decide (x7_1 < (l0.length : Int)) = false := decide_eq_false c2
    clear c2
    obtain rfl := Option.some.inj H
    go_wp2
    go_ret
    exact ⟨by first | rfl | (simp; done) | (simp [*]; done), by repeat (first | exact Drawn0.refl _ | apply Drawn0.step)⟩

end Go.Proofs.Ytnmhdeibjglhcaa.XAll
