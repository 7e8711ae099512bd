-- This session's own text, written by wip/tools/xall.py after the form of the kit's print.
import Derived.Test.YtpioelilfhkfdaaXAllx0
import Derived.Test.YtpioelilfhkfdaaXAllx8
import Derived.Test.YtpioelilfhkfdaaXAllx9
import Derived.Test.YtpioelilfhkfdaaXAllx20
namespace Go.Proofs.Ytpioelilfhkfdaa.XAll
open Go.RowKit Go.Proofs.YtpioelilfhkfdaaW.PrintWords Go.Proofs.YtpioelilfhkfdaaW.PrintLast Go.Proofs.YtpioelilfhkfdaaW.PrintMore
attribute [local go_sem] max2_int min2_int max_two min_two max_three min_three max_four min_four   -- for this text's walks alone
set_option linter.unusedVariables false
set_option linter.unusedSimpArgs false

/-! ### railplanlaw17_SearchRaw: function 5 -/
mutual
def railplanlaw17_SearchRaw.j0 : Nat → Int → Int → Bool → Int → List (S60) → List (S62) → Option (Bool)
 | 0, _, _, _, _, _, _ => none
 | k + 1, x1, x5, x14, x223000, x223001, x223002 => if x14 = true then (railplanlaw17_SearchRaw.j1 k x1 x1 x223000 x223001 x223002) else (railplanlaw17_SearchRaw.j1 k x1 x5 x223000 x223001 x223002)
def railplanlaw17_SearchRaw.j1 : Nat → Int → Int → Int → List (S60) → List (S62) → Option (Bool)
 | 0, _, _, _, _, _ => none
 | k + 1, x1, x5, x223000, x223001, x223002 => (railplanlaw17_awake.f k).bind fun t224 => (if t224 = true then ((railplanlaw17_agrees.f k x223000 x223001 x223002 x5).bind fun t225 => (if t225 = true then ((railplanlaw17_small.f).bind fun bt226 => ((railplanlaw17_agrees.f k bt226.1 bt226.2.1 bt226.2.2 x1).bind fun t233 => (some t233))) else (some false))) else (some false))
end
def railplanlaw17_SearchRaw.f (k : Nat) (a0_0 : Int) (l0_1 : List (S60)) (l0_2 : List (S62)) (a1 : Int) : Option (Bool) := (railplankeep_Pick.f a1 300).bind fun t223 => (if a1 < 1 then (railplanlaw17_SearchRaw.j0 k a1 (wrap64 (t223 - 2)) true a0_0 l0_1 l0_2) else (railplanlaw17_SearchRaw.j0 k a1 (wrap64 (t223 - 2)) (decide (a1 > 1048576)) a0_0 l0_1 l0_2))
theorem railplanlaw17_SearchRaw.mono_l : ∀ k, (∀ y0 y1 y2 y3 y4 y5, LeO (railplanlaw17_SearchRaw.j0 k y0 y1 y2 y3 y4 y5) (railplanlaw17_SearchRaw.j0 (k + 1) y0 y1 y2 y3 y4 y5)) ∧ (∀ y0 y1 y2 y3 y4, LeO (railplanlaw17_SearchRaw.j1 k y0 y1 y2 y3 y4) (railplanlaw17_SearchRaw.j1 (k + 1) y0 y1 y2 y3 y4))
 | 0 => ⟨fun _ _ _ _ _ _ r h => by simp [railplanlaw17_SearchRaw.j0] at h, fun _ _ _ _ _ r h => by simp [railplanlaw17_SearchRaw.j1] at h⟩
 | k + 1 => by
  obtain ⟨ih0, ih1⟩ := railplanlaw17_SearchRaw.mono_l k
  refine ⟨?_, ?_⟩
  ·intro y0 y1 y2 y3 y4 y5
   unfold railplanlaw17_SearchRaw.j0
   repeat' first
   | (with_reducible exact ih0 _ _ _ _ _ _)
   | (with_reducible exact ih1 _ _ _ _ _)
   | (with_reducible exact railplanlaw17_agrees.mono _ _ _ _ _)
   | (with_reducible exact railplanlaw17_awake.mono _)
   | (with_reducible exact LeO.refl _)
   | (with_reducible exact LeO.none _)
   | (with_reducible refine LeO.ite ?_ ?_)
   | (with_reducible refine LeO.bind ?_ (fun _ => ?_))
   | exact ih0 _ _ _ _ _ _
   | exact ih1 _ _ _ _ _
   | exact railplanlaw17_agrees.mono _ _ _ _ _
   | exact railplanlaw17_awake.mono _
   | exact LeO.none _
   | refine LeO.ite ?_ ?_
   | refine LeO.bind ?_ (fun _ => ?_)
  ·intro y0 y1 y2 y3 y4
   unfold railplanlaw17_SearchRaw.j1
   repeat' first
   | (with_reducible exact ih0 _ _ _ _ _ _)
   | (with_reducible exact ih1 _ _ _ _ _)
   | (with_reducible exact railplanlaw17_agrees.mono _ _ _ _ _)
   | (with_reducible exact railplanlaw17_awake.mono _)
   | (with_reducible exact LeO.refl _)
   | (with_reducible exact LeO.none _)
   | (with_reducible refine LeO.ite ?_ ?_)
   | (with_reducible refine LeO.bind ?_ (fun _ => ?_))
   | exact ih0 _ _ _ _ _ _
   | exact ih1 _ _ _ _ _
   | exact railplanlaw17_agrees.mono _ _ _ _ _
   | exact railplanlaw17_awake.mono _
   | exact LeO.none _
   | refine LeO.ite ?_ ?_
   | refine LeO.bind ?_ (fun _ => ?_)
theorem railplanlaw17_SearchRaw.mono : ∀ a0 a1 a2 a3 k, LeO (railplanlaw17_SearchRaw.f k a0 a1 a2 a3) (railplanlaw17_SearchRaw.f (k + 1) a0 a1 a2 a3) := by
 intro a0 a1 a2 a3 k
 obtain ⟨ih0, ih1⟩ := railplanlaw17_SearchRaw.mono_l k
 unfold railplanlaw17_SearchRaw.f
 repeat' first
   | (with_reducible exact ih0 _ _ _ _ _ _)
   | (with_reducible exact ih1 _ _ _ _ _)
   | (with_reducible exact railplanlaw17_agrees.mono _ _ _ _ _)
   | (with_reducible exact railplanlaw17_awake.mono _)
   | (with_reducible exact LeO.refl _)
   | (with_reducible exact LeO.none _)
   | (with_reducible refine LeO.ite ?_ ?_)
   | (with_reducible refine LeO.bind ?_ (fun _ => ?_))
   | exact ih0 _ _ _ _ _ _
   | exact ih1 _ _ _ _ _
   | exact railplanlaw17_agrees.mono _ _ _ _ _
   | exact railplanlaw17_awake.mono _
   | exact LeO.none _
   | refine LeO.ite ?_ ?_
   | refine LeO.bind ?_ (fun _ => ?_)
set_option maxHeartbeats 8000000 in
set_option maxRecDepth 100000 in
theorem railplanlaw17_SearchRaw.calls (k : Nat) (a0_0 : Int) (A0_1 : Option Addr) (c0_1 : Nat) (l0_1 : List (S60)) (A0_2 : Option Addr) (c0_2 : Nat) (l0_2 : List (S62)) (a1 : Int) (r : Bool) (w : World) (hr0_1 : Kd.C k60 w A0_1 l0_1.length l0_1) (hc0_1 : l0_1.length ≤ c0_1) (hr0_2 : Kd.C k62 w A0_2 l0_2.length l0_2) (hc0_2 : l0_2.length ≤ c0_2) (h : railplanlaw17_SearchRaw.f k a0_0 l0_1 l0_2 a1 = some r) (hT : Aside0 (r = true)) :
  Calls Try.prog 5 #[.agg #[.int .i64 a0_0, .slice A0_1 l0_1.length c0_1, .slice A0_2 l0_2.length c0_2], .int .i64 a1] w fun e w' => e = .returned (.bool r) ∧ Below w.heap.size w w' := by
 have hu26 := Try.underlying26
 have HR0_1 := qo hr0_1
 have HC0_1 := qo hc0_1
 clear hr0_1 hc0_1
 have HR0_2 := qo hr0_2
 have HC0_2 := qo hc0_2
 clear hr0_2 hc0_2
 have HB := qo (qaj w.heap.size w)
 have H : ((railplankeep_Pick.f a1 300).bind fun t223 => (if a1 < 1 then (railplanlaw17_SearchRaw.j0 k a1 (wrap64 (t223 - 2)) true a0_0 l0_1 l0_2) else (railplanlaw17_SearchRaw.j0 k a1 (wrap64 (t223 - 2)) (decide (a1 > 1048576)) a0_0 l0_1 l0_2))) = some r := h
 clear h
 replace H := Option.bind_eq_some_iff.mp H
 obtain ⟨t223, A30, H⟩ := H
 replace H : (if a1 < 1 then (railplanlaw17_SearchRaw.j0 k a1 (wrap64 (t223 - 2)) true a0_0 l0_1 l0_2) else (railplanlaw17_SearchRaw.j0 k a1 (wrap64 (t223 - 2)) (decide (a1 > 1048576)) a0_0 l0_1 l0_2)) = some r := H
 have A3 := qo A30
 clear A30
 have HC4 := qo H
 clear H
 go_enter Try.func5, Try.ntmps5
 go_upto_region 2 with (first | ((with_reducible refine gate_dst (N := 2) rfl ?_); refine box_event ?hg (N := 2) ?hd (cs := #[.int .i64 a0_0, .slice A0_1 l0_1.length c0_1, .slice A0_2 l0_2.length c0_2]) (t := 26) ?hr ?_; (case hd => rfl); (case hg => rfl); (case hr => first | (go_simp; done) | (go_simp; rfl)); intro gb222 hg w5 hbox hb; have n0_ := qo (qt (by repeat (first | (with_reducible first | exact HB.out | apply qc | apply qb | apply qd) | exact HB.out)) hb); have n1_ := qo (hbox); have n2_ := qo ((by rw [hg]; exact (qu (by repeat (first | (with_reducible first | exact HB.out | apply qc | apply qb | apply qd) | exact HB.out))) : w.heap.size ≤ gb222)); have n3_ := qo ((by rw [hg]; exact (qu (by repeat (first | (with_reducible first | exact HB.out | apply qc | apply qb | apply qd) | exact HB.out))) : w.heap.size ≤ gb222)); clear HB; have HB := n0_; have BK222 := n1_; have GW222 := n2_; have GE222 := n3_; clear n0_ n1_ n2_ n3_; clear hb hbox hg) | ((with_reducible refine gate_callee (f := 21) rfl ?_); refine goesL_ (some 7) rfl rfl Try.func21 (by kernel_rfl) rfl #[.int .i64 a1, .int .i64 300] rfl (by (try simp only [List.map_toArray, List.map_cons, List.map_nil]); first | done | rfl | (simp only [List.length_drop, List.length_take]; rfl)) ?_; (with_reducible refine (railplankeep_Pick.calls a1 300 t223 _ A3.out).mono ?_); rintro e w' ⟨rfl, ⟨nd, rfl⟩⟩; refine ⟨_, rfl, ?_⟩))
 (try simp only [Act.put, List.setIfInBounds_toArray, List.set_cons_zero, List.set_cons_succ])
 go_cut [14] (fun v14 wc => ∃ (kq : Nat) (x14_3 : Bool), v14 = .bool x14_3 ∧ Aside0 (railplanlaw17_SearchRaw.j0 kq a1 (wrap64 (t223 - 2)) x14_3 a0_0 l0_1 l0_2 = some r) ∧ Aside0 (kq ≤ k) ∧ Aside0 (wc.heap[gb222]? = some (.cells #[.int .i64 a0_0, (.slice A0_1 l0_1.length c0_1), (.slice A0_2 l0_2.length c0_2)] 26 (0, 0))) ∧ Aside0 (Below w.heap.size w wc))
 case first =>
  have H := HC4.out
  clear HC4
  by_cases c6 : a1 < 1
  ·rw [if_pos c6] at H
   have c6b0 : decide (a1 < 1) = true := qac c6
   clear c6
   (first | rw [c6b0] | (simp only [i64_w, i32_w]; rw [c6b0]) | skip)
   have H' := qo H
   clear H
   go_wp2
   go_meet
   case rel => exact ⟨_, (true), (by first | rfl | (simp; done) | (simp [*]; done)), H', ⟨by first | omega | exact Nat.le_refl _⟩, ⟨by (with_reducible repeat (first | refine ql ?_ _ | refine qm ?_ | refine qk ?_ _)); exact BK222.out⟩, ⟨by repeat (first | (with_reducible first | exact HB.out | apply qc | apply qb | apply qd | refine qn ?_ GE222.out) | exact HB.out)⟩⟩
  ·rw [if_neg c6] at H
   have c6b0 : decide (a1 < 1) = false := qad c6
   clear c6
   (first | rw [c6b0] | (simp only [i64_w, i32_w]; rw [c6b0]) | skip)
   have H' := qo H
   clear H
   go_wp2
   go_meet
   case rel => exact ⟨_, (decide (a1 > 1048576)), (by first | rfl | (simp; done) | (simp [*]; done)), H', ⟨by first | omega | exact Nat.le_refl _⟩, ⟨by (with_reducible repeat (first | refine ql ?_ _ | refine qm ?_ | refine qk ?_ _)); exact BK222.out⟩, ⟨by repeat (first | (with_reducible first | exact HB.out | apply qc | apply qb | apply qd | refine qn ?_ GE222.out) | exact HB.out)⟩⟩
 case rest =>
  clear HC4
  try clear c2
  try clear p2
  try clear c5
  try clear c6
  try clear c6b0
  try clear p6
  obtain ⟨kq, x14_3, rfl, HA, HJ3, BK222, HB⟩ := hcut
  cases kq with
  | zero => exact absurd HA.out (by simp [railplanlaw17_SearchRaw.j0])
  | succ kj3 =>
   have H := HA.out
   clear HA
   simp only [railplanlaw17_SearchRaw.j0] at H
   have HC7 := qo H
   clear H
   go_upto_if 14 with (fail)
   go_cut [5] (fun v5 wc => ∃ (kq : Nat) (x5_6 : Int), v5 = .int .i64 x5_6 ∧ Aside0 (railplanlaw17_SearchRaw.j1 kq a1 x5_6 a0_0 l0_1 l0_2 = some r) ∧ Aside0 (kq ≤ kj3) ∧ Aside0 (wc.heap[gb222]? = some (.cells #[.int .i64 a0_0, (.slice A0_1 l0_1.length c0_1), (.slice A0_2 l0_2.length c0_2)] 26 (0, 0))) ∧ Aside0 (Below w.heap.size w wc))
   case first =>
    have H := HC7.out
    clear HC7
    by_cases c8 : x14_3 = true
    ·subst c8
     have H1 : (railplanlaw17_SearchRaw.j1 kj3 a1 a1 a0_0 l0_1 l0_2) = some r := by rw [if_pos rfl] at H; exact H
     clear H
     have H := H1
     clear H1
     have H' := qo H
     clear H
     go_wp2
     go_meet
     case rel => exact ⟨_, (a1), (by first | rfl | (simp; done) | (simp [*]; done)), H', ⟨by have := HJ3.out; first | omega | exact Nat.le_refl _⟩, ⟨by (with_reducible repeat (first | refine ql ?_ _ | refine qm ?_ | refine qk ?_ _)); exact BK222.out⟩, ⟨by repeat (first | (with_reducible first | exact HB.out | apply qc | apply qb | apply qd | refine qn ?_ GE222.out) | exact HB.out)⟩⟩
    ·replace c8 := Bool.eq_false_iff.mpr c8
     subst c8
     have H1 : (railplanlaw17_SearchRaw.j1 kj3 a1 (wrap64 (t223 - 2)) a0_0 l0_1 l0_2) = some r := by rw [if_neg (show ¬ (false = true) by decide)] at H; exact H
     clear H
     have H := H1
     clear H1
     have H' := qo H
     clear H
     go_wp2
     go_meet
     case rel => exact ⟨_, ((wrap64 (t223 - 2))), (by first | rfl | (simp; done) | (simp [*]; done)), H', ⟨by have := HJ3.out; first | omega | exact Nat.le_refl _⟩, ⟨by (with_reducible repeat (first | refine ql ?_ _ | refine qm ?_ | refine qk ?_ _)); exact BK222.out⟩, ⟨by repeat (first | (with_reducible first | exact HB.out | apply qc | apply qb | apply qd | refine qn ?_ GE222.out) | exact HB.out)⟩⟩
   case rest =>
    clear HC7
    try clear c2
    try clear p2
    try clear c5
    try clear c6
    try clear c6b0
    try clear p6
    try clear c8
    try clear p2
    try clear p6
    obtain ⟨kq, x5_6, rfl, HA, HJ6, BK222, HB⟩ := hcut
    cases kq with
    | zero => exact absurd HA.out (by simp [railplanlaw17_SearchRaw.j1])
    | succ kj6 =>
     have H := HA.out
     clear HA
     simp only [railplanlaw17_SearchRaw.j1] at H
     replace H := Option.bind_eq_some_iff.mp H
     obtain ⟨t224, A90, H⟩ := H
     replace H : (if t224 = true then ((railplanlaw17_agrees.f kj6 a0_0 l0_1 l0_2 x5_6).bind fun t225 => (if t225 = true then ((railplanlaw17_small.f).bind fun bt226 => ((railplanlaw17_agrees.f kj6 bt226.1 bt226.2.1 bt226.2.2 a1).bind fun t233 => (some t233))) else (some false))) else (some false)) = some r := H
     have A9 := qo A90
     clear A90
     by_cases c10 : t224 = true
     ·subst c10
      have H1 : ((railplanlaw17_agrees.f kj6 a0_0 l0_1 l0_2 x5_6).bind fun t225 => (if t225 = true then ((railplanlaw17_small.f).bind fun bt226 => ((railplanlaw17_agrees.f kj6 bt226.1 bt226.2.1 bt226.2.2 a1).bind fun t233 => (some t233))) else (some false))) = some r := by rw [if_pos rfl] at H; exact H
      clear H
      have H := H1
      clear H1
      replace H := Option.bind_eq_some_iff.mp H
      obtain ⟨t225, A110, H⟩ := H
      replace H : (if t225 = true then ((railplanlaw17_small.f).bind fun bt226 => ((railplanlaw17_agrees.f kj6 bt226.1 bt226.2.1 bt226.2.2 a1).bind fun t233 => (some t233))) else (some false)) = some r := H
      have A11 := qo A110
      clear A110
      by_cases c12 : t225 = true
      ·subst c12
       have H1 : ((railplanlaw17_small.f).bind fun bt226 => ((railplanlaw17_agrees.f kj6 bt226.1 bt226.2.1 bt226.2.2 a1).bind fun t233 => (some t233))) = some r := by rw [if_pos rfl] at H; exact H
       clear H
       have H := H1
       clear H1
       replace H := Option.bind_eq_some_iff.mp H
       obtain ⟨⟨t226, t227, t230⟩, A130, H⟩ := H
       replace H : ((railplanlaw17_agrees.f kj6 t226 t227 t230 a1).bind fun t233 => (some t233)) = some r := H
       have A13 := qo A130
       clear A130
       replace H := Option.bind_eq_some_iff.mp H
       obtain ⟨t233, A140, H⟩ := H
       replace H : (some t233) = some r := H
       have A14 := qo A140
       clear A140
       obtain rfl := Option.some.inj H
       go_wp2_with (first | ((with_reducible refine gate_callee (f := 15) rfl ?_); refine goesL_ (some 16) rfl rfl Try.func15 (by kernel_rfl) rfl #[] rfl (by (try simp only [List.map_toArray, List.map_cons, List.map_nil]); first | done | rfl | (simp only [List.length_drop, List.length_take]; rfl)) ?_; (with_reducible refine (railplanlaw17_awake.calls kj6  true _ A9.out ⟨by first | rfl | assumption | exact hT.out⟩).mono ?_); rintro e w15 ⟨rfl, hb⟩; refine ⟨_, rfl, ?_⟩; have n0_ := qo (qaa (g := gb222) (o := .cells #[.int .i64 a0_0, .slice A0_1 l0_1.length c0_1, .slice A0_2 l0_2.length c0_2] 26 (0, 0)) (by (with_reducible repeat (first | refine ql ?_ _ | refine qm ?_ | refine qk ?_ _)); exact BK222.out) hb); have n1_ := qo (qt (by repeat (first | (with_reducible first | exact HB.out | apply qc | apply qb | apply qd | refine qn ?_ GE222.out) | exact HB.out)) hb); clear BK222; clear HB; have BK222 := n0_; have HB := n1_; clear n0_ n1_; (try clear hb); (try clear hb2); (try clear hk); (try clear hi); have hcz16_0 : w15.cell? ⟨gb222, 0, none⟩ = some (.int .i64 a0_0) := (qe BK222.out 0).trans rfl; have hcz16_1 : w15.cell? ⟨gb222, 1, none⟩ = some (.slice A0_1 l0_1.length c0_1) := (qe BK222.out 1).trans rfl; have hcz16_2 : w15.cell? ⟨gb222, 2, none⟩ = some (.slice A0_2 l0_2.length c0_2) := (qe BK222.out 2).trans rfl; have hfz16_0 := qf BK222.out 0; have hfz16_1 := qf BK222.out 1; have hfz16_2 := qf BK222.out 2) | (go_at_call 22; (with_reducible refine (railplanlaw17_agrees.calls kj6 a0_0 _ _ l0_1 _ _ l0_2 x5_6 true _ ?side1 ?side2 ?side3 ?side4 A11.out ⟨by first | rfl | assumption | exact hT.out⟩).mono ?_); (case side1 => repeat (first | exact (qs HR0_1.out HB.out) | (with_reducible refine qv ?_ _) | (with_reducible refine qw ?_ _) | (with_reducible refine qx ?_))); (case side2 => exact HC0_1.out); (case side3 => repeat (first | exact (qs HR0_2.out HB.out) | (with_reducible refine qv ?_ _) | (with_reducible refine qw ?_ _) | (with_reducible refine qx ?_))); (case side4 => exact HC0_2.out); rintro e w17 ⟨rfl, hb⟩; have n0_ := qo (qaa (g := gb222) (o := .cells #[.int .i64 a0_0, .slice A0_1 l0_1.length c0_1, .slice A0_2 l0_2.length c0_2] 26 (0, 0)) (by (with_reducible repeat (first | refine ql ?_ _ | refine qm ?_ | refine qk ?_ _)); exact BK222.out) hb); have n1_ := qo (qt (by repeat (first | (with_reducible first | exact HB.out | apply qc | apply qb | apply qd | refine qn ?_ GE222.out) | exact HB.out)) hb); clear BK222; clear HB; have BK222 := n0_; have HB := n1_; clear n0_ n1_; (try clear hb); (try clear hb2); (try clear hk); (try clear hi)) | (go_at_call 19; (with_reducible refine (railplanlaw17_small.calls  t226 t227 t230 _ A13.out).mono ?_); rintro e w18 ⟨v228, v231, rfl, ho0, ho1, hb⟩; have n0_ := qo (qag ho0 (qu (by repeat (first | (with_reducible first | exact HB.out | apply qc | apply qb | apply qd | refine qn ?_ GE222.out) | exact HB.out)))); have n1_ := qo (qag ho1 (qu (by repeat (first | (with_reducible first | exact HB.out | apply qc | apply qb | apply qd | refine qn ?_ GE222.out) | exact HB.out)))); have n2_ := qo (qaa (g := gb222) (o := .cells #[.int .i64 a0_0, .slice A0_1 l0_1.length c0_1, .slice A0_2 l0_2.length c0_2] 26 (0, 0)) (by (with_reducible repeat (first | refine ql ?_ _ | refine qm ?_ | refine qk ?_ _)); exact BK222.out) hb); have n3_ := qo (qt (by repeat (first | (with_reducible first | exact HB.out | apply qc | apply qb | apply qd | refine qn ?_ GE222.out) | exact HB.out)) hb); clear BK222; clear HB; have HO229 := n0_; have HO232 := n1_; have BK222 := n2_; have HB := n3_; clear n0_ n1_ n2_ n3_; (try clear hb); (try clear hb2); (try clear hk); (try clear hi); (try clear ho0); (try clear ho1); obtain ⟨Ao19, co19, eo19⟩ := qak HO229.out; subst eo19; obtain ⟨Ao20, co20, eo20⟩ := qak HO232.out; subst eo20) | (go_at_call 22; (with_reducible refine (railplanlaw17_agrees.calls kj6 t226 _ _ t227 _ _ t230 a1 t233 _ ?side1 ?side2 ?side3 ?side4 A14.out ⟨by first | rfl | assumption | exact hT.out⟩).mono ?_); (case side1 => repeat (first | exact (qr HO229.out).2.2 | (with_reducible refine qv ?_ _) | (with_reducible refine qw ?_ _) | (with_reducible refine qx ?_))); (case side2 => exact (qr HO229.out).2.1); (case side3 => repeat (first | exact (qr HO232.out).2.2 | (with_reducible refine qv ?_ _) | (with_reducible refine qw ?_ _) | (with_reducible refine qx ?_))); (case side4 => exact (qr HO232.out).2.1); rintro e w21 ⟨rfl, hb⟩; have n0_ := qo (qae (by (with_reducible repeat (first | apply qh | apply qg | apply qi)); exact HO229.out) hb); have n1_ := qo (qae (by (with_reducible repeat (first | apply qh | apply qg | apply qi)); exact HO232.out) hb); have n2_ := qo (qaa (g := gb222) (o := .cells #[.int .i64 a0_0, .slice A0_1 l0_1.length c0_1, .slice A0_2 l0_2.length c0_2] 26 (0, 0)) (by (with_reducible repeat (first | refine ql ?_ _ | refine qm ?_ | refine qk ?_ _)); exact BK222.out) hb); have n3_ := qo (qt (by repeat (first | (with_reducible first | exact HB.out | apply qc | apply qb | apply qd | refine qn ?_ GE222.out) | exact HB.out)) hb); clear HO229; clear HO232; clear BK222; clear HB; have HO229 := n0_; have HO232 := n1_; have BK222 := n2_; have HB := n3_; clear n0_ n1_ n2_ n3_; (try clear hb); (try clear hb2); (try clear hk); (try clear hi)))
       go_ret
       exact ⟨by first | rfl | (simp [errW_none, errW_some] <;> rfl) | (simp [*, errW_none, errW_some] <;> rfl), by repeat (first | (with_reducible first | exact HB.out | apply qc | apply qb | apply qd | refine qn ?_ GE222.out) | exact HB.out)⟩
      ·replace c12 := Bool.eq_false_iff.mpr c12
       subst c12
       have H1 : (some false) = some r := by rw [if_neg (show ¬ (false = true) by decide)] at H; exact H
       clear H
       have H := H1
       clear H1
       exact absurd (Option.some.inj H) (by rw [hT.out]; decide)
     ·replace c10 := Bool.eq_false_iff.mpr c10
      subst c10
      have H1 : (some false) = some r := by rw [if_neg (show ¬ (false = true) by decide)] at H; exact H
      clear H
      have H := H1
      clear H1
      exact absurd (Option.some.inj H) (by rw [hT.out]; decide)

end Go.Proofs.Ytpioelilfhkfdaa.XAll
