-- This session's own text, written by wip/tools/xall.py after the form of the kit's print.
import Derived.Test.YtpioelilfhkfdaaXAllx0
import Derived.Test.YtpioelilfhkfdaaXAllx9
namespace Go.Proofs.Ytpioelilfhkfdaa.XAll
open Go.RowKit Go.Proofs.YtpioelilfhkfdaaW.PrintWords Go.Proofs.YtpioelilfhkfdaaW.PrintLast Go.Proofs.YtpioelilfhkfdaaW.PrintMore
attribute [local go_sem] max2_int min2_int max_two min_two max_three min_three max_four min_four   -- for this text's walks alone
set_option linter.unusedVariables false
set_option linter.unusedSimpArgs false

/-! ### railplanref11_Check: function 37 -/
mutual
def railplanref11_Check.j0 : Nat → Bool → Int → List (S60) → List (S62) → Option (Bool)
 | 0, _, _, _, _ => none
 | k + 1, x20, x153000, x153001, x153002 => if x20 = true then (some false) else (railplanref11_Check.l0 k 0 x153000 x153001 x153002)
def railplanref11_Check.l0 : Nat → Int → Int → List (S60) → List (S62) → Option (Bool)
 | 0, _, _, _, _ => none
 | k + 1, x3, x153000, x153001, x153002 => if x3 < (x153002.length : Int) then (if 0 ≤ x3 then ((railplanref11_in.f ((rd_T62 x153002 x3).f1) 0 (wrap64 ((x153001.length : Int) - 1))).bind fun t156 => (if t156 = true then ((railplanref11_in.f ((rd_T62 x153002 x3).f2) 0 (wrap64 ((x153001.length : Int) - 1))).bind fun t157 => (if t157 = true then (if ((rd_T62 x153002 x3).f1) = ((rd_T62 x153002 x3).f2) then (some false) else (if ((rd_T62 x153002 x3).f3) < (-65536) then (some false) else (if ((rd_T62 x153002 x3).f4) > 65536 then (some false) else (if ((rd_T62 x153002 x3).f3) > ((rd_T62 x153002 x3).f4) then (some false) else (if (wrap64 (((rd_T62 x153002 x3).f4) - ((rd_T62 x153002 x3).f3))) ≥ x153000 then (some false) else ((railplanref11_in.f ((rd_T62 x153002 x3).f5) 0 1048576).bind fun t158 => (if t158 = true then (railplanref11_Check.l0 k (wrap64 (x3 + 1)) x153000 x153001 x153002) else (some false)))))))) else (some false))) else (some false))) else (none)) else (some true)
end
def railplanref11_Check.f (k : Nat) (a0_0 : Int) (l0_1 : List (S60)) (l0_2 : List (S62)) : Option (Bool) := (railplanref11_in.f a0_0 2 7200).bind fun t153 => (if t153 = true then (if (l0_1.length : Int) > 48 then (railplanref11_Check.j0 k true a0_0 l0_1 l0_2) else (railplanref11_Check.j0 k (decide ((l0_2.length : Int) > 512)) a0_0 l0_1 l0_2)) else (railplanref11_Check.j0 k true a0_0 l0_1 l0_2))
theorem railplanref11_Check.mono_l : ∀ k, (∀ y0 y1 y2 y3, LeO (railplanref11_Check.j0 k y0 y1 y2 y3) (railplanref11_Check.j0 (k + 1) y0 y1 y2 y3)) ∧ (∀ y0 y1 y2 y3, LeO (railplanref11_Check.l0 k y0 y1 y2 y3) (railplanref11_Check.l0 (k + 1) y0 y1 y2 y3))
 | 0 => ⟨fun _ _ _ _ r h => by simp [railplanref11_Check.j0] at h, fun _ _ _ _ r h => by simp [railplanref11_Check.l0] at h⟩
 | k + 1 => by
  obtain ⟨ih0, ih1⟩ := railplanref11_Check.mono_l k
  refine ⟨?_, ?_⟩
  ·intro y0 y1 y2 y3
   unfold railplanref11_Check.j0
   repeat' first
   | (with_reducible exact ih0 _ _ _ _)
   | (with_reducible exact ih1 _ _ _ _)
   | (with_reducible exact LeO.refl _)
   | (with_reducible exact LeO.none _)
   | (with_reducible refine LeO.ite ?_ ?_)
   | (with_reducible refine LeO.bind ?_ (fun _ => ?_))
   | exact ih0 _ _ _ _
   | exact ih1 _ _ _ _
   | exact LeO.none _
   | refine LeO.ite ?_ ?_
   | refine LeO.bind ?_ (fun _ => ?_)
  ·intro y0 y1 y2 y3
   unfold railplanref11_Check.l0
   repeat' first
   | (with_reducible exact ih0 _ _ _ _)
   | (with_reducible exact ih1 _ _ _ _)
   | (with_reducible exact LeO.refl _)
   | (with_reducible exact LeO.none _)
   | (with_reducible refine LeO.ite ?_ ?_)
   | (with_reducible refine LeO.bind ?_ (fun _ => ?_))
   | exact ih0 _ _ _ _
   | exact ih1 _ _ _ _
   | exact LeO.none _
   | refine LeO.ite ?_ ?_
   | refine LeO.bind ?_ (fun _ => ?_)
theorem railplanref11_Check.mono : ∀ a0 a1 a2 k, LeO (railplanref11_Check.f k a0 a1 a2) (railplanref11_Check.f (k + 1) a0 a1 a2) := by
 intro a0 a1 a2 k
 obtain ⟨ih0, ih1⟩ := railplanref11_Check.mono_l k
 unfold railplanref11_Check.f
 repeat' first
   | (with_reducible exact ih0 _ _ _ _)
   | (with_reducible exact ih1 _ _ _ _)
   | (with_reducible exact LeO.refl _)
   | (with_reducible exact LeO.none _)
   | (with_reducible refine LeO.ite ?_ ?_)
   | (with_reducible refine LeO.bind ?_ (fun _ => ?_))
   | exact ih0 _ _ _ _
   | exact ih1 _ _ _ _
   | exact LeO.none _
   | refine LeO.ite ?_ ?_
   | refine LeO.bind ?_ (fun _ => ?_)
set_option maxHeartbeats 8000000 in
set_option maxRecDepth 100000 in
theorem railplanref11_Check.calls (k : Nat) (a0_0 : Int) (A0_1 : Option Addr) (c0_1 : Nat) (l0_1 : List (S60)) (A0_2 : Option Addr) (c0_2 : Nat) (l0_2 : List (S62)) (r : Bool) (w : World) (hr0_1 : Kd.C k60 w A0_1 l0_1.length l0_1) (hc0_1 : l0_1.length ≤ c0_1) (hr0_2 : Kd.C k62 w A0_2 l0_2.length l0_2) (hc0_2 : l0_2.length ≤ c0_2) (h : railplanref11_Check.f k a0_0 l0_1 l0_2 = some r) :
  Calls Try.prog 37 #[.agg #[.int .i64 a0_0, .slice A0_1 l0_1.length c0_1, .slice A0_2 l0_2.length c0_2]] w fun e w' => e = .returned (.bool r) ∧ Below w.heap.size w w' := by
 have hu26 := Try.underlying26
 have hu62 := Try.underlying62
 have HR0_1 := qo hr0_1
 have HC0_1 := qo hc0_1
 clear hr0_1 hc0_1
 have HR0_2 := qo hr0_2
 have HC0_2 := qo hc0_2
 clear hr0_2 hc0_2
 have HB := qo (qaj w.heap.size w)
 have H : ((railplanref11_in.f a0_0 2 7200).bind fun t153 => (if t153 = true then (if (l0_1.length : Int) > 48 then (railplanref11_Check.j0 k true a0_0 l0_1 l0_2) else (railplanref11_Check.j0 k (decide ((l0_2.length : Int) > 512)) a0_0 l0_1 l0_2)) else (railplanref11_Check.j0 k true a0_0 l0_1 l0_2))) = some r := h
 clear h
 have HC2 := qo H
 clear H
 go_enter Try.func37, Try.ntmps37
 go_upto_region 1 with (first | ((with_reducible refine gate_dst (N := 1) rfl ?_); (try (refine gate_guard (by rfl) ?_; dsimp only)); refine box_event ?hg (N := 1) ?hd (cs := #[.int .i64 a0_0, .slice A0_1 l0_1.length c0_1, .slice A0_2 l0_2.length c0_2]) (t := 26) ?hr ?_; (case hd => rfl); (case hg => rfl); (case hr => first | (go_simp; done) | (go_simp; rfl)); intro gb152 hg w3 hbox hb; have n0_ := qo (qt (by repeat (first | (with_reducible first | exact HB.out | apply qc | apply qb | apply qd) | exact HB.out)) hb); have n1_ := qo (hbox); have n2_ := qo ((by rw [hg]; exact (qu (by repeat (first | (with_reducible first | exact HB.out | apply qc | apply qb | apply qd) | exact HB.out))) : w.heap.size ≤ gb152)); have n3_ := qo ((by rw [hg]; exact (qu (by repeat (first | (with_reducible first | exact HB.out | apply qc | apply qb | apply qd) | exact HB.out))) : w.heap.size ≤ gb152)); clear HB; have HB := n0_; have BK152 := n1_; have GW152 := n2_; have GE152 := n3_; clear n0_ n1_ n2_ n3_; clear hb hbox hg))
 (try simp only [Act.put, List.setIfInBounds_toArray, List.set_cons_zero, List.set_cons_succ])
 go_cut [20] (fun v20 wc => ∃ (kq : Nat) (x20_1 : Bool), v20 = .bool x20_1 ∧ Aside0 (railplanref11_Check.j0 kq x20_1 a0_0 l0_1 l0_2 = some r) ∧ Aside0 (kq ≤ k) ∧ Aside0 (wc.heap[gb152]? = some (.cells #[.int .i64 a0_0, (.slice A0_1 l0_1.length c0_1), (.slice A0_2 l0_2.length c0_2)] 26 (0, 0))) ∧ Aside0 (Below w.heap.size w wc))
 case first =>
  have H := HC2.out
  clear HC2
  replace H := Option.bind_eq_some_iff.mp H
  obtain ⟨t153, A40, H⟩ := H
  replace H : (if t153 = true then (if (l0_1.length : Int) > 48 then (railplanref11_Check.j0 k true a0_0 l0_1 l0_2) else (railplanref11_Check.j0 k (decide ((l0_2.length : Int) > 512)) a0_0 l0_1 l0_2)) else (railplanref11_Check.j0 k true a0_0 l0_1 l0_2)) = some r := H
  have A4 := qo A40
  clear A40
  by_cases c5 : t153 = true
  ·subst c5
   have H1 : (if (l0_1.length : Int) > 48 then (railplanref11_Check.j0 k true a0_0 l0_1 l0_2) else (railplanref11_Check.j0 k (decide ((l0_2.length : Int) > 512)) a0_0 l0_1 l0_2)) = some r := by rw [if_pos rfl] at H; exact H
   clear H
   have H := H1
   clear H1
   by_cases c6 : (l0_1.length : Int) > 48
   ·rw [if_pos c6] at H
    have c6b0 : decide (48 < (l0_1.length : Int)) = true := qac c6
    have c6b1 : decide (48 < l0_1.length) = true := qac (by omega)
    clear c6
    (first | rw [c6b0] | (simp only [i64_w, i32_w]; rw [c6b0]) | skip)
    have H' := qo H
    clear H
    have hcz7_0 : w3.cell? ⟨gb152, 0, none⟩ = some (.int .i64 a0_0) := (qe BK152.out 0).trans rfl
    have hcz7_1 : w3.cell? ⟨gb152, 1, none⟩ = some (.slice A0_1 l0_1.length c0_1) := (qe BK152.out 1).trans rfl
    have hcz7_2 : w3.cell? ⟨gb152, 2, none⟩ = some (.slice A0_2 l0_2.length c0_2) := (qe BK152.out 2).trans rfl
    have hfz7_0 := qf BK152.out 0
    have hfz7_1 := qf BK152.out 1
    have hfz7_2 := qf BK152.out 2
    go_wp2_with (first | ((with_reducible refine gate_callee (f := 60) rfl ?_); refine goesL_ (some 7) rfl rfl Try.func60 (by kernel_rfl) rfl #[.int .i64 a0_0, .int .i64 2, .int .i64 7200] rfl (by (try simp only [List.map_toArray, List.map_cons, List.map_nil]); first | done | rfl | (simp only [List.length_drop, List.length_take]; rfl)) ?_; (with_reducible refine (railplanref11_in.calls a0_0 2 7200 true _ A4.out).mono ?_); rintro e w' ⟨rfl, ⟨nd, rfl⟩⟩; refine ⟨_, rfl, ?_⟩))
    go_meet
    case rel => exact ⟨_, (true), (by first | rfl | (simp; done) | (simp [*]; done)), H', ⟨by first | omega | exact Nat.le_refl _⟩, ⟨by (with_reducible repeat (first | refine ql ?_ _ | refine qm ?_ | refine qk ?_ _)); exact BK152.out⟩, ⟨by repeat (first | (with_reducible first | exact HB.out | apply qc | apply qb | apply qd | refine qn ?_ GE152.out) | exact HB.out)⟩⟩
   ·rw [if_neg c6] at H
    have c6b0 : decide (48 < (l0_1.length : Int)) = false := qad c6
    have c6b1 : decide (48 < l0_1.length) = false := qad (by omega)
    clear c6
    (first | rw [c6b0] | (simp only [i64_w, i32_w]; rw [c6b0]) | skip)
    have H' := qo H
    clear H
    have hcz8_0 : w3.cell? ⟨gb152, 0, none⟩ = some (.int .i64 a0_0) := (qe BK152.out 0).trans rfl
    have hcz8_1 : w3.cell? ⟨gb152, 1, none⟩ = some (.slice A0_1 l0_1.length c0_1) := (qe BK152.out 1).trans rfl
    have hcz8_2 : w3.cell? ⟨gb152, 2, none⟩ = some (.slice A0_2 l0_2.length c0_2) := (qe BK152.out 2).trans rfl
    have hfz8_0 := qf BK152.out 0
    have hfz8_1 := qf BK152.out 1
    have hfz8_2 := qf BK152.out 2
    go_wp2_with (first | ((with_reducible refine gate_callee (f := 60) rfl ?_); refine goesL_ (some 7) rfl rfl Try.func60 (by kernel_rfl) rfl #[.int .i64 a0_0, .int .i64 2, .int .i64 7200] rfl (by (try simp only [List.map_toArray, List.map_cons, List.map_nil]); first | done | rfl | (simp only [List.length_drop, List.length_take]; rfl)) ?_; (with_reducible refine (railplanref11_in.calls a0_0 2 7200 true _ A4.out).mono ?_); rintro e w' ⟨rfl, ⟨nd, rfl⟩⟩; refine ⟨_, rfl, ?_⟩))
    go_meet
    case rel => exact ⟨_, (decide ((l0_2.length : Int) > 512)), (by first | rfl | (simp; done) | (simp [*]; done)), H', ⟨by first | omega | exact Nat.le_refl _⟩, ⟨by (with_reducible repeat (first | refine ql ?_ _ | refine qm ?_ | refine qk ?_ _)); exact BK152.out⟩, ⟨by repeat (first | (with_reducible first | exact HB.out | apply qc | apply qb | apply qd | refine qn ?_ GE152.out) | exact HB.out)⟩⟩
  ·replace c5 := Bool.eq_false_iff.mpr c5
   subst c5
   have H1 : (railplanref11_Check.j0 k true a0_0 l0_1 l0_2) = some r := by rw [if_neg (show ¬ (false = true) by decide)] at H; exact H
   clear H
   have H := H1
   clear H1
   have H' := qo H
   clear H
   have hcz9_0 : w3.cell? ⟨gb152, 0, none⟩ = some (.int .i64 a0_0) := (qe BK152.out 0).trans rfl
   have hcz9_1 : w3.cell? ⟨gb152, 1, none⟩ = some (.slice A0_1 l0_1.length c0_1) := (qe BK152.out 1).trans rfl
   have hcz9_2 : w3.cell? ⟨gb152, 2, none⟩ = some (.slice A0_2 l0_2.length c0_2) := (qe BK152.out 2).trans rfl
   have hfz9_0 := qf BK152.out 0
   have hfz9_1 := qf BK152.out 1
   have hfz9_2 := qf BK152.out 2
   go_wp2_with (first | ((with_reducible refine gate_callee (f := 60) rfl ?_); refine goesL_ (some 7) rfl rfl Try.func60 (by kernel_rfl) rfl #[.int .i64 a0_0, .int .i64 2, .int .i64 7200] rfl (by (try simp only [List.map_toArray, List.map_cons, List.map_nil]); first | done | rfl | (simp only [List.length_drop, List.length_take]; rfl)) ?_; (with_reducible refine (railplanref11_in.calls a0_0 2 7200 false _ A4.out).mono ?_); rintro e w' ⟨rfl, ⟨nd, rfl⟩⟩; refine ⟨_, rfl, ?_⟩))
   go_meet
   case rel => exact ⟨_, (true), (by first | rfl | (simp; done) | (simp [*]; done)), H', ⟨by first | omega | exact Nat.le_refl _⟩, ⟨by (with_reducible repeat (first | refine ql ?_ _ | refine qm ?_ | refine qk ?_ _)); exact BK152.out⟩, ⟨by repeat (first | (with_reducible first | exact HB.out | apply qc | apply qb | apply qd | refine qn ?_ GE152.out) | exact HB.out)⟩⟩
 case rest =>
  clear HC2
  try clear p2
  try clear c3
  try clear c5
  try clear c6
  try clear c6b0
  try clear c6b1
  try clear hcz7_0
  try clear hcz7_1
  try clear hcz7_2
  try clear hcz8_0
  try clear hcz8_1
  try clear hcz8_2
  try clear hcz9_0
  try clear hcz9_1
  try clear hcz9_2
  try clear hfz7_0
  try clear hfz7_1
  try clear hfz7_2
  try clear hfz8_0
  try clear hfz8_1
  try clear hfz8_2
  try clear hfz9_0
  try clear hfz9_1
  try clear hfz9_2
  obtain ⟨kq, x20_1, rfl, HA, HJ1, BK152, HB⟩ := hcut
  cases kq with
  | zero => exact absurd HA.out (by simp [railplanref11_Check.j0])
  | succ kj1 =>
   have H := HA.out
   clear HA
   simp only [railplanref11_Check.j0] at H
   by_cases c10 : x20_1 = true
   ·subst c10
    have H1 : (some false) = some r := by rw [if_pos rfl] at H; exact H
    clear H
    have H := H1
    clear H1
    obtain rfl := Option.some.inj H
    go_wp2
    go_ret
    exact ⟨by first | rfl | (simp [errW_none, errW_some] <;> rfl) | (simp [*, errW_none, errW_some] <;> rfl), by repeat (first | (with_reducible first | exact HB.out | apply qc | apply qb | apply qd | refine qn ?_ GE152.out) | exact HB.out)⟩
   ·replace c10 := Bool.eq_false_iff.mpr c10
    subst c10
    have H1 : (railplanref11_Check.l0 kj1 0 a0_0 l0_1 l0_2) = some r := by rw [if_neg (show ¬ (false = true) by decide)] at H; exact H
    clear H
    have H := H1
    clear H1
    have H' := qo H
    clear H
    go_wp2
    go_loopg [3] kj1 (fun kq v3 w' => ∃ (x3_2 : Int), v3 = .int .i64 x3_2 ∧ Aside0 (railplanref11_Check.l0 kq x3_2 a0_0 l0_1 l0_2 = some r) ∧ Aside0 (kq ≤ kj1) ∧ Aside0 (w'.heap[gb152]? = some (.cells #[.int .i64 a0_0, (.slice A0_1 l0_1.length c0_1), (.slice A0_2 l0_2.length c0_2)] 26 (0, 0))) ∧ Aside0 (Below w.heap.size w w'))
    case atStart => exact ⟨(0), (by first | rfl | (simp; done) | (simp [*]; done)), H', ⟨Nat.le_refl _⟩, ⟨by (with_reducible repeat (first | refine ql ?_ _ | refine qm ?_ | refine qk ?_ _)); exact BK152.out⟩, ⟨by repeat (first | (with_reducible first | exact HB.out | apply qc | apply qb | apply qd | refine qn ?_ GE152.out) | exact HB.out)⟩⟩
    case round =>
     clear H'
     try clear c1
     try clear p2
     try clear c3
     try clear c5
     try clear c6
     try clear c6b0
     try clear c6b1
     try clear c10
     try clear hcz7_0
     try clear hcz7_1
     try clear hcz7_2
     try clear hcz8_0
     try clear hcz8_1
     try clear hcz8_2
     try clear hcz9_0
     try clear hcz9_1
     try clear hcz9_2
     try clear hfz7_0
     try clear hfz7_1
     try clear hfz7_2
     try clear hfz8_0
     try clear hfz8_1
     try clear hfz8_2
     try clear hfz9_0
     try clear hfz9_1
     try clear hfz9_2
     try clear p2
     obtain ⟨x3_2, rfl, HA, HK2, BK152, HB⟩ := hrel
     cases gk with
     | zero => exact absurd HA.out (by simp [railplanref11_Check.l0])
     | succ k2 =>
      have H := HA.out
      clear HA
      simp only [railplanref11_Check.l0] at H
      by_cases c11 : x3_2 < (l0_2.length : Int)
      ·rw [if_pos c11] at H
       have c11b0 : decide (x3_2 < (l0_2.length : Int)) = true := qac c11
       clear c11
       by_cases c12 : 0 ≤ x3_2
       ·rw [if_pos c12] at H
        have c12b0 : decide (0 ≤ x3_2) = true := qac c12
        clear c12
        replace H := Option.bind_eq_some_iff.mp H
        obtain ⟨t156, A130, H⟩ := H
        replace H : (if t156 = true then ((railplanref11_in.f ((rd_T62 l0_2 x3_2).f2) 0 (wrap64 ((l0_1.length : Int) - 1))).bind fun t157 => (if t157 = true then (if ((rd_T62 l0_2 x3_2).f1) = ((rd_T62 l0_2 x3_2).f2) then (some false) else (if ((rd_T62 l0_2 x3_2).f3) < (-65536) then (some false) else (if ((rd_T62 l0_2 x3_2).f4) > 65536 then (some false) else (if ((rd_T62 l0_2 x3_2).f3) > ((rd_T62 l0_2 x3_2).f4) then (some false) else (if (wrap64 (((rd_T62 l0_2 x3_2).f4) - ((rd_T62 l0_2 x3_2).f3))) ≥ a0_0 then (some false) else ((railplanref11_in.f ((rd_T62 l0_2 x3_2).f5) 0 1048576).bind fun t158 => (if t158 = true then (railplanref11_Check.l0 k2 (wrap64 (x3_2 + 1)) a0_0 l0_1 l0_2) else (some false)))))))) else (some false))) else (some false)) = some r := H
        have A13 := qo A130
        clear A130
        by_cases c14 : t156 = true
        ·subst c14
         have H1 : ((railplanref11_in.f ((rd_T62 l0_2 x3_2).f2) 0 (wrap64 ((l0_1.length : Int) - 1))).bind fun t157 => (if t157 = true then (if ((rd_T62 l0_2 x3_2).f1) = ((rd_T62 l0_2 x3_2).f2) then (some false) else (if ((rd_T62 l0_2 x3_2).f3) < (-65536) then (some false) else (if ((rd_T62 l0_2 x3_2).f4) > 65536 then (some false) else (if ((rd_T62 l0_2 x3_2).f3) > ((rd_T62 l0_2 x3_2).f4) then (some false) else (if (wrap64 (((rd_T62 l0_2 x3_2).f4) - ((rd_T62 l0_2 x3_2).f3))) ≥ a0_0 then (some false) else ((railplanref11_in.f ((rd_T62 l0_2 x3_2).f5) 0 1048576).bind fun t158 => (if t158 = true then (railplanref11_Check.l0 k2 (wrap64 (x3_2 + 1)) a0_0 l0_1 l0_2) else (some false)))))))) else (some false))) = some r := by rw [if_pos rfl] at H; exact H
         clear H
         have H := H1
         clear H1
         replace H := Option.bind_eq_some_iff.mp H
         obtain ⟨t157, A150, H⟩ := H
         replace H : (if t157 = true then (if ((rd_T62 l0_2 x3_2).f1) = ((rd_T62 l0_2 x3_2).f2) then (some false) else (if ((rd_T62 l0_2 x3_2).f3) < (-65536) then (some false) else (if ((rd_T62 l0_2 x3_2).f4) > 65536 then (some false) else (if ((rd_T62 l0_2 x3_2).f3) > ((rd_T62 l0_2 x3_2).f4) then (some false) else (if (wrap64 (((rd_T62 l0_2 x3_2).f4) - ((rd_T62 l0_2 x3_2).f3))) ≥ a0_0 then (some false) else ((railplanref11_in.f ((rd_T62 l0_2 x3_2).f5) 0 1048576).bind fun t158 => (if t158 = true then (railplanref11_Check.l0 k2 (wrap64 (x3_2 + 1)) a0_0 l0_1 l0_2) else (some false)))))))) else (some false)) = some r := H
         have A15 := qo A150
         clear A150
         by_cases c16 : t157 = true
         ·subst c16
          have H1 : (if ((rd_T62 l0_2 x3_2).f1) = ((rd_T62 l0_2 x3_2).f2) then (some false) else (if ((rd_T62 l0_2 x3_2).f3) < (-65536) then (some false) else (if ((rd_T62 l0_2 x3_2).f4) > 65536 then (some false) else (if ((rd_T62 l0_2 x3_2).f3) > ((rd_T62 l0_2 x3_2).f4) then (some false) else (if (wrap64 (((rd_T62 l0_2 x3_2).f4) - ((rd_T62 l0_2 x3_2).f3))) ≥ a0_0 then (some false) else ((railplanref11_in.f ((rd_T62 l0_2 x3_2).f5) 0 1048576).bind fun t158 => (if t158 = true then (railplanref11_Check.l0 k2 (wrap64 (x3_2 + 1)) a0_0 l0_1 l0_2) else (some false)))))))) = some r := by rw [if_pos rfl] at H; exact H
          clear H
          have H := H1
          clear H1
          by_cases c17 : ((rd_T62 l0_2 x3_2).f1) = ((rd_T62 l0_2 x3_2).f2)
          ·rw [if_pos c17] at H
           have c17b0 : (((rd_T62 l0_2 x3_2).f1) == ((rd_T62 l0_2 x3_2).f2)) = true := beq_iff_eq.mpr c17
           have c17b1 : (((rd_T62 l0_2 x3_2).f1) != ((rd_T62 l0_2 x3_2).f2)) = false := bne_eq_false_iff_eq.mpr c17
           clear c17
           obtain rfl := Option.some.inj H
           have hcz18_0 : wr.cell? ⟨gb152, 0, none⟩ = some (.int .i64 a0_0) := (qe BK152.out 0).trans rfl
           have hcz18_1 : wr.cell? ⟨gb152, 1, none⟩ = some (.slice A0_1 l0_1.length c0_1) := (qe BK152.out 1).trans rfl
           have hcz18_2 : wr.cell? ⟨gb152, 2, none⟩ = some (.slice A0_2 l0_2.length c0_2) := (qe BK152.out 2).trans rfl
           have hfz18_0 := qf BK152.out 0
           have hfz18_1 := qf BK152.out 1
           have hfz18_2 := qf BK152.out 2
           have p154 : 0 ≤ (x3_2 : Int) := qq (by first | (with_reducible assumption) | assumption)
           have q154 : x3_2 < (l0_2.length : Int) := qq (by first | (with_reducible assumption) | assumption)
           obtain ⟨ad154, e154, hx154_0, hx154_1, hx154_2, hx154_3, hx154_4, hx154_5⟩ := at_T62 HR0_2.out x3_2 p154 q154
           cases e154
           replace hx154_0 := (HB.out.cell (qa w _ hx154_0)).trans hx154_0
           replace hx154_1 := (HB.out.cell (qa w _ hx154_1)).trans hx154_1
           replace hx154_2 := (HB.out.cell (qa w _ hx154_2)).trans hx154_2
           replace hx154_3 := (HB.out.cell (qa w _ hx154_3)).trans hx154_3
           replace hx154_4 := (HB.out.cell (qa w _ hx154_4)).trans hx154_4
           replace hx154_5 := (HB.out.cell (qa w _ hx154_5)).trans hx154_5
           replace p154 := eq_true p154
           replace q154 := eq_true q154
           go_wp2_with (first | ((with_reducible refine gate_dst (N := 4) rfl ?_); (try (refine gate_guard (by rfl) ?_; dsimp only)); refine box_event ?hg (N := 4) ?hd (cs := #[.int .i64 0, .int .i64 0, .int .i64 0, .int .i64 0, .int .i64 0, .int .i64 0]) (t := 62) ?hr ?_; (case hd => rfl); (case hg => rfl); (case hr => first | (go_simp; done) | (go_simp; rfl)); intro gb155 hg w19 hbox hb; have n0_ := qo (qaa (g := gb152) (o := .cells #[.int .i64 a0_0, .slice A0_1 l0_1.length c0_1, .slice (some ad154) l0_2.length c0_2] 26 (0, 0)) (by (with_reducible repeat (first | refine ql ?_ _ | refine qm ?_ | refine qk ?_ _)); exact BK152.out) hb); have n1_ := qo (qt (by repeat (first | (with_reducible first | exact HB.out | apply qc | apply qb | apply qd | refine qn ?_ GE152.out) | exact HB.out)) hb); have n2_ := qo (hbox); have n3_ := qo ((by rw [hg]; exact (qu (by repeat (first | (with_reducible first | exact HB.out | apply qc | apply qb | apply qd | refine qn ?_ GE152.out) | exact HB.out))) : w.heap.size ≤ gb155)); have n4_ := qo ((by rw [hg]; exact (qu (by repeat (first | (with_reducible first | exact HB.out | apply qc | apply qb | apply qd | refine qn ?_ GE152.out) | exact HB.out))) : w.heap.size ≤ gb155)); have n5_ := qo ((by rw [hg]; exact qp (blk_lt (g := gb152) (o := .cells #[.int .i64 a0_0, .slice A0_1 l0_1.length c0_1, .slice (some ad154) l0_2.length c0_2] 26 (0, 0)) (by (with_reducible repeat (first | refine ql ?_ _ | refine qm ?_ | refine qk ?_ _)); exact BK152.out)) : gb152 ≠ gb155)); have n6_ := qo ((by rw [hg]; exact Nat.ne_of_gt (blk_lt (g := gb152) (o := .cells #[.int .i64 a0_0, .slice A0_1 l0_1.length c0_1, .slice (some ad154) l0_2.length c0_2] 26 (0, 0)) (by (with_reducible repeat (first | refine ql ?_ _ | refine qm ?_ | refine qk ?_ _)); exact BK152.out)) : gb155 ≠ gb152)); clear BK152; clear HB; have BK152 := n0_; have HB := n1_; have BK155 := n2_; have GW155 := n3_; have GE155 := n4_; have NB152_155 := n5_; have NB155_152 := n6_; clear n0_ n1_ n2_ n3_ n4_ n5_ n6_; clear hb hbox hg; have hnb20 := NB155_152.out; have hnc20 := NB152_155.out; have hcz21_0 : w19.cell? ⟨gb155, 0, none⟩ = some (.int .i64 0) := (qe BK155.out 0).trans rfl; have hcz21_1 : w19.cell? ⟨gb155, 1, none⟩ = some (.int .i64 0) := (qe BK155.out 1).trans rfl; have hcz21_2 : w19.cell? ⟨gb155, 2, none⟩ = some (.int .i64 0) := (qe BK155.out 2).trans rfl; have hcz21_3 : w19.cell? ⟨gb155, 3, none⟩ = some (.int .i64 0) := (qe BK155.out 3).trans rfl; have hcz21_4 : w19.cell? ⟨gb155, 4, none⟩ = some (.int .i64 0) := (qe BK155.out 4).trans rfl; have hcz21_5 : w19.cell? ⟨gb155, 5, none⟩ = some (.int .i64 0) := (qe BK155.out 5).trans rfl; have hfz21_0 := qf BK155.out 0; have hfz21_1 := qf BK155.out 1; have hfz21_2 := qf BK155.out 2; have hfz21_3 := qf BK155.out 3; have hfz21_4 := qf BK155.out 4; have hfz21_5 := qf BK155.out 5; have hcz22_0 : w19.cell? ⟨gb152, 0, none⟩ = some (.int .i64 a0_0) := (qe BK152.out 0).trans rfl; have hcz22_1 : w19.cell? ⟨gb152, 1, none⟩ = some (.slice A0_1 l0_1.length c0_1) := (qe BK152.out 1).trans rfl; have hcz22_2 : w19.cell? ⟨gb152, 2, none⟩ = some (.slice (some ad154) l0_2.length c0_2) := (qe BK152.out 2).trans rfl; have hfz22_0 := qf BK152.out 0; have hfz22_1 := qf BK152.out 1; have hfz22_2 := qf BK152.out 2) | ((with_reducible refine gate_callee (f := 60) rfl ?_); refine goesL_ (some 39) rfl rfl Try.func60 (by kernel_rfl) rfl #[.int .i64 ((rd_T62 l0_2 x3_2).f1), .int .i64 0, .int .i64 (wrap64 ((l0_1.length : Int) - 1))] rfl (by (try simp only [List.map_toArray, List.map_cons, List.map_nil]); first | done | rfl | (simp only [List.length_drop, List.length_take]; rfl)) ?_; (with_reducible refine (railplanref11_in.calls ((rd_T62 l0_2 x3_2).f1) 0 (wrap64 ((l0_1.length : Int) - 1)) true _ A13.out).mono ?_); rintro e w' ⟨rfl, ⟨nd, rfl⟩⟩; refine ⟨_, rfl, ?_⟩) | (go_at_call 60; (with_reducible refine (railplanref11_in.calls ((rd_T62 l0_2 x3_2).f2) 0 (wrap64 ((l0_1.length : Int) - 1)) true _ A15.out).mono ?_); rintro e w' ⟨rfl, ⟨nd, rfl⟩⟩))
           go_ret
           exact ⟨by first | rfl | (simp [errW_none, errW_some] <;> rfl) | (simp [*, errW_none, errW_some] <;> rfl), by repeat (first | (with_reducible first | exact HB.out | apply qc | apply qb | apply qd | refine qn ?_ GE152.out | refine qn ?_ GE155.out) | exact HB.out)⟩
          ·rw [if_neg c17] at H
           have c17b0 : (((rd_T62 l0_2 x3_2).f1) == ((rd_T62 l0_2 x3_2).f2)) = false := beq_eq_false_iff_ne.mpr c17
           have c17b1 : (((rd_T62 l0_2 x3_2).f1) != ((rd_T62 l0_2 x3_2).f2)) = true := bne_iff_ne.mpr c17
           by_cases c23 : ((rd_T62 l0_2 x3_2).f3) < (-65536)
           ·rw [if_pos c23] at H
            have c23b0 : decide (((rd_T62 l0_2 x3_2).f3) < (-65536)) = true := qac c23
            clear c23
            obtain rfl := Option.some.inj H
            have hcz24_0 : wr.cell? ⟨gb152, 0, none⟩ = some (.int .i64 a0_0) := (qe BK152.out 0).trans rfl
            have hcz24_1 : wr.cell? ⟨gb152, 1, none⟩ = some (.slice A0_1 l0_1.length c0_1) := (qe BK152.out 1).trans rfl
            have hcz24_2 : wr.cell? ⟨gb152, 2, none⟩ = some (.slice A0_2 l0_2.length c0_2) := (qe BK152.out 2).trans rfl
            have hfz24_0 := qf BK152.out 0
            have hfz24_1 := qf BK152.out 1
            have hfz24_2 := qf BK152.out 2
            have p154 : 0 ≤ (x3_2 : Int) := qq (by first | (with_reducible assumption) | assumption)
            have q154 : x3_2 < (l0_2.length : Int) := qq (by first | (with_reducible assumption) | assumption)
            obtain ⟨ad154, e154, hx154_0, hx154_1, hx154_2, hx154_3, hx154_4, hx154_5⟩ := at_T62 HR0_2.out x3_2 p154 q154
            cases e154
            replace hx154_0 := (HB.out.cell (qa w _ hx154_0)).trans hx154_0
            replace hx154_1 := (HB.out.cell (qa w _ hx154_1)).trans hx154_1
            replace hx154_2 := (HB.out.cell (qa w _ hx154_2)).trans hx154_2
            replace hx154_3 := (HB.out.cell (qa w _ hx154_3)).trans hx154_3
            replace hx154_4 := (HB.out.cell (qa w _ hx154_4)).trans hx154_4
            replace hx154_5 := (HB.out.cell (qa w _ hx154_5)).trans hx154_5
            replace p154 := eq_true p154
            replace q154 := eq_true q154
            go_wp2_with (first | ((with_reducible refine gate_dst (N := 4) rfl ?_); (try (refine gate_guard (by rfl) ?_; dsimp only)); refine box_event ?hg (N := 4) ?hd (cs := #[.int .i64 0, .int .i64 0, .int .i64 0, .int .i64 0, .int .i64 0, .int .i64 0]) (t := 62) ?hr ?_; (case hd => rfl); (case hg => rfl); (case hr => first | (go_simp; done) | (go_simp; rfl)); intro gb155 hg w25 hbox hb; have n0_ := qo (qaa (g := gb152) (o := .cells #[.int .i64 a0_0, .slice A0_1 l0_1.length c0_1, .slice (some ad154) l0_2.length c0_2] 26 (0, 0)) (by (with_reducible repeat (first | refine ql ?_ _ | refine qm ?_ | refine qk ?_ _)); exact BK152.out) hb); have n1_ := qo (qt (by repeat (first | (with_reducible first | exact HB.out | apply qc | apply qb | apply qd | refine qn ?_ GE152.out) | exact HB.out)) hb); have n2_ := qo (hbox); have n3_ := qo ((by rw [hg]; exact (qu (by repeat (first | (with_reducible first | exact HB.out | apply qc | apply qb | apply qd | refine qn ?_ GE152.out) | exact HB.out))) : w.heap.size ≤ gb155)); have n4_ := qo ((by rw [hg]; exact (qu (by repeat (first | (with_reducible first | exact HB.out | apply qc | apply qb | apply qd | refine qn ?_ GE152.out) | exact HB.out))) : w.heap.size ≤ gb155)); have n5_ := qo ((by rw [hg]; exact qp (blk_lt (g := gb152) (o := .cells #[.int .i64 a0_0, .slice A0_1 l0_1.length c0_1, .slice (some ad154) l0_2.length c0_2] 26 (0, 0)) (by (with_reducible repeat (first | refine ql ?_ _ | refine qm ?_ | refine qk ?_ _)); exact BK152.out)) : gb152 ≠ gb155)); have n6_ := qo ((by rw [hg]; exact Nat.ne_of_gt (blk_lt (g := gb152) (o := .cells #[.int .i64 a0_0, .slice A0_1 l0_1.length c0_1, .slice (some ad154) l0_2.length c0_2] 26 (0, 0)) (by (with_reducible repeat (first | refine ql ?_ _ | refine qm ?_ | refine qk ?_ _)); exact BK152.out)) : gb155 ≠ gb152)); clear BK152; clear HB; have BK152 := n0_; have HB := n1_; have BK155 := n2_; have GW155 := n3_; have GE155 := n4_; have NB152_155 := n5_; have NB155_152 := n6_; clear n0_ n1_ n2_ n3_ n4_ n5_ n6_; clear hb hbox hg; have hnb26 := NB155_152.out; have hnc26 := NB152_155.out; have hcz27_0 : w25.cell? ⟨gb155, 0, none⟩ = some (.int .i64 0) := (qe BK155.out 0).trans rfl; have hcz27_1 : w25.cell? ⟨gb155, 1, none⟩ = some (.int .i64 0) := (qe BK155.out 1).trans rfl; have hcz27_2 : w25.cell? ⟨gb155, 2, none⟩ = some (.int .i64 0) := (qe BK155.out 2).trans rfl; have hcz27_3 : w25.cell? ⟨gb155, 3, none⟩ = some (.int .i64 0) := (qe BK155.out 3).trans rfl; have hcz27_4 : w25.cell? ⟨gb155, 4, none⟩ = some (.int .i64 0) := (qe BK155.out 4).trans rfl; have hcz27_5 : w25.cell? ⟨gb155, 5, none⟩ = some (.int .i64 0) := (qe BK155.out 5).trans rfl; have hfz27_0 := qf BK155.out 0; have hfz27_1 := qf BK155.out 1; have hfz27_2 := qf BK155.out 2; have hfz27_3 := qf BK155.out 3; have hfz27_4 := qf BK155.out 4; have hfz27_5 := qf BK155.out 5; have hcz28_0 : w25.cell? ⟨gb152, 0, none⟩ = some (.int .i64 a0_0) := (qe BK152.out 0).trans rfl; have hcz28_1 : w25.cell? ⟨gb152, 1, none⟩ = some (.slice A0_1 l0_1.length c0_1) := (qe BK152.out 1).trans rfl; have hcz28_2 : w25.cell? ⟨gb152, 2, none⟩ = some (.slice (some ad154) l0_2.length c0_2) := (qe BK152.out 2).trans rfl; have hfz28_0 := qf BK152.out 0; have hfz28_1 := qf BK152.out 1; have hfz28_2 := qf BK152.out 2) | ((with_reducible refine gate_callee (f := 60) rfl ?_); refine goesL_ (some 39) rfl rfl Try.func60 (by kernel_rfl) rfl #[.int .i64 ((rd_T62 l0_2 x3_2).f1), .int .i64 0, .int .i64 (wrap64 ((l0_1.length : Int) - 1))] rfl (by (try simp only [List.map_toArray, List.map_cons, List.map_nil]); first | done | rfl | (simp only [List.length_drop, List.length_take]; rfl)) ?_; (with_reducible refine (railplanref11_in.calls ((rd_T62 l0_2 x3_2).f1) 0 (wrap64 ((l0_1.length : Int) - 1)) true _ A13.out).mono ?_); rintro e w' ⟨rfl, ⟨nd, rfl⟩⟩; refine ⟨_, rfl, ?_⟩) | (go_at_call 60; (with_reducible refine (railplanref11_in.calls ((rd_T62 l0_2 x3_2).f2) 0 (wrap64 ((l0_1.length : Int) - 1)) true _ A15.out).mono ?_); rintro e w' ⟨rfl, ⟨nd, rfl⟩⟩))
            go_ret
            exact ⟨by first | rfl | (simp [errW_none, errW_some] <;> rfl) | (simp [*, errW_none, errW_some] <;> rfl), by repeat (first | (with_reducible first | exact HB.out | apply qc | apply qb | apply qd | refine qn ?_ GE152.out | refine qn ?_ GE155.out) | exact HB.out)⟩
           ·rw [if_neg c23] at H
            have c23b0 : decide (((rd_T62 l0_2 x3_2).f3) < (-65536)) = false := qad c23
            clear c23
            by_cases c29 : ((rd_T62 l0_2 x3_2).f4) > 65536
            ·rw [if_pos c29] at H
             have c29b0 : decide (65536 < ((rd_T62 l0_2 x3_2).f4)) = true := qac c29
             clear c29
             obtain rfl := Option.some.inj H
             have hcz30_0 : wr.cell? ⟨gb152, 0, none⟩ = some (.int .i64 a0_0) := (qe BK152.out 0).trans rfl
             have hcz30_1 : wr.cell? ⟨gb152, 1, none⟩ = some (.slice A0_1 l0_1.length c0_1) := (qe BK152.out 1).trans rfl
             have hcz30_2 : wr.cell? ⟨gb152, 2, none⟩ = some (.slice A0_2 l0_2.length c0_2) := (qe BK152.out 2).trans rfl
             have hfz30_0 := qf BK152.out 0
             have hfz30_1 := qf BK152.out 1
             have hfz30_2 := qf BK152.out 2
             have p154 : 0 ≤ (x3_2 : Int) := qq (by first | (with_reducible assumption) | assumption)
             have q154 : x3_2 < (l0_2.length : Int) := qq (by first | (with_reducible assumption) | assumption)
             obtain ⟨ad154, e154, hx154_0, hx154_1, hx154_2, hx154_3, hx154_4, hx154_5⟩ := at_T62 HR0_2.out x3_2 p154 q154
             cases e154
             replace hx154_0 := (HB.out.cell (qa w _ hx154_0)).trans hx154_0
             replace hx154_1 := (HB.out.cell (qa w _ hx154_1)).trans hx154_1
             replace hx154_2 := (HB.out.cell (qa w _ hx154_2)).trans hx154_2
             replace hx154_3 := (HB.out.cell (qa w _ hx154_3)).trans hx154_3
             replace hx154_4 := (HB.out.cell (qa w _ hx154_4)).trans hx154_4
             replace hx154_5 := (HB.out.cell (qa w _ hx154_5)).trans hx154_5
             replace p154 := eq_true p154
             replace q154 := eq_true q154
             go_wp2_with (first | ((with_reducible refine gate_dst (N := 4) rfl ?_); (try (refine gate_guard (by rfl) ?_; dsimp only)); refine box_event ?hg (N := 4) ?hd (cs := #[.int .i64 0, .int .i64 0, .int .i64 0, .int .i64 0, .int .i64 0, .int .i64 0]) (t := 62) ?hr ?_; (case hd => rfl); (case hg => rfl); (case hr => first | (go_simp; done) | (go_simp; rfl)); intro gb155 hg w31 hbox hb; have n0_ := qo (qaa (g := gb152) (o := .cells #[.int .i64 a0_0, .slice A0_1 l0_1.length c0_1, .slice (some ad154) l0_2.length c0_2] 26 (0, 0)) (by (with_reducible repeat (first | refine ql ?_ _ | refine qm ?_ | refine qk ?_ _)); exact BK152.out) hb); have n1_ := qo (qt (by repeat (first | (with_reducible first | exact HB.out | apply qc | apply qb | apply qd | refine qn ?_ GE152.out) | exact HB.out)) hb); have n2_ := qo (hbox); have n3_ := qo ((by rw [hg]; exact (qu (by repeat (first | (with_reducible first | exact HB.out | apply qc | apply qb | apply qd | refine qn ?_ GE152.out) | exact HB.out))) : w.heap.size ≤ gb155)); have n4_ := qo ((by rw [hg]; exact (qu (by repeat (first | (with_reducible first | exact HB.out | apply qc | apply qb | apply qd | refine qn ?_ GE152.out) | exact HB.out))) : w.heap.size ≤ gb155)); have n5_ := qo ((by rw [hg]; exact qp (blk_lt (g := gb152) (o := .cells #[.int .i64 a0_0, .slice A0_1 l0_1.length c0_1, .slice (some ad154) l0_2.length c0_2] 26 (0, 0)) (by (with_reducible repeat (first | refine ql ?_ _ | refine qm ?_ | refine qk ?_ _)); exact BK152.out)) : gb152 ≠ gb155)); have n6_ := qo ((by rw [hg]; exact Nat.ne_of_gt (blk_lt (g := gb152) (o := .cells #[.int .i64 a0_0, .slice A0_1 l0_1.length c0_1, .slice (some ad154) l0_2.length c0_2] 26 (0, 0)) (by (with_reducible repeat (first | refine ql ?_ _ | refine qm ?_ | refine qk ?_ _)); exact BK152.out)) : gb155 ≠ gb152)); clear BK152; clear HB; have BK152 := n0_; have HB := n1_; have BK155 := n2_; have GW155 := n3_; have GE155 := n4_; have NB152_155 := n5_; have NB155_152 := n6_; clear n0_ n1_ n2_ n3_ n4_ n5_ n6_; clear hb hbox hg; have hnb32 := NB155_152.out; have hnc32 := NB152_155.out; have hcz33_0 : w31.cell? ⟨gb155, 0, none⟩ = some (.int .i64 0) := (qe BK155.out 0).trans rfl; have hcz33_1 : w31.cell? ⟨gb155, 1, none⟩ = some (.int .i64 0) := (qe BK155.out 1).trans rfl; have hcz33_2 : w31.cell? ⟨gb155, 2, none⟩ = some (.int .i64 0) := (qe BK155.out 2).trans rfl; have hcz33_3 : w31.cell? ⟨gb155, 3, none⟩ = some (.int .i64 0) := (qe BK155.out 3).trans rfl; have hcz33_4 : w31.cell? ⟨gb155, 4, none⟩ = some (.int .i64 0) := (qe BK155.out 4).trans rfl; have hcz33_5 : w31.cell? ⟨gb155, 5, none⟩ = some (.int .i64 0) := (qe BK155.out 5).trans rfl; have hfz33_0 := qf BK155.out 0; have hfz33_1 := qf BK155.out 1; have hfz33_2 := qf BK155.out 2; have hfz33_3 := qf BK155.out 3; have hfz33_4 := qf BK155.out 4; have hfz33_5 := qf BK155.out 5; have hcz34_0 : w31.cell? ⟨gb152, 0, none⟩ = some (.int .i64 a0_0) := (qe BK152.out 0).trans rfl; have hcz34_1 : w31.cell? ⟨gb152, 1, none⟩ = some (.slice A0_1 l0_1.length c0_1) := (qe BK152.out 1).trans rfl; have hcz34_2 : w31.cell? ⟨gb152, 2, none⟩ = some (.slice (some ad154) l0_2.length c0_2) := (qe BK152.out 2).trans rfl; have hfz34_0 := qf BK152.out 0; have hfz34_1 := qf BK152.out 1; have hfz34_2 := qf BK152.out 2) | ((with_reducible refine gate_callee (f := 60) rfl ?_); refine goesL_ (some 39) rfl rfl Try.func60 (by kernel_rfl) rfl #[.int .i64 ((rd_T62 l0_2 x3_2).f1), .int .i64 0, .int .i64 (wrap64 ((l0_1.length : Int) - 1))] rfl (by (try simp only [List.map_toArray, List.map_cons, List.map_nil]); first | done | rfl | (simp only [List.length_drop, List.length_take]; rfl)) ?_; (with_reducible refine (railplanref11_in.calls ((rd_T62 l0_2 x3_2).f1) 0 (wrap64 ((l0_1.length : Int) - 1)) true _ A13.out).mono ?_); rintro e w' ⟨rfl, ⟨nd, rfl⟩⟩; refine ⟨_, rfl, ?_⟩) | (go_at_call 60; (with_reducible refine (railplanref11_in.calls ((rd_T62 l0_2 x3_2).f2) 0 (wrap64 ((l0_1.length : Int) - 1)) true _ A15.out).mono ?_); rintro e w' ⟨rfl, ⟨nd, rfl⟩⟩))
             go_ret
             exact ⟨by first | rfl | (simp [errW_none, errW_some] <;> rfl) | (simp [*, errW_none, errW_some] <;> rfl), by repeat (first | (with_reducible first | exact HB.out | apply qc | apply qb | apply qd | refine qn ?_ GE152.out | refine qn ?_ GE155.out) | exact HB.out)⟩
            ·rw [if_neg c29] at H
             have c29b0 : decide (65536 < ((rd_T62 l0_2 x3_2).f4)) = false := qad c29
             clear c29
             by_cases c35 : ((rd_T62 l0_2 x3_2).f3) > ((rd_T62 l0_2 x3_2).f4)
             ·rw [if_pos c35] at H
              have c35b0 : decide (((rd_T62 l0_2 x3_2).f4) < ((rd_T62 l0_2 x3_2).f3)) = true := qac c35
              clear c35
              obtain rfl := Option.some.inj H
              have hcz36_0 : wr.cell? ⟨gb152, 0, none⟩ = some (.int .i64 a0_0) := (qe BK152.out 0).trans rfl
              have hcz36_1 : wr.cell? ⟨gb152, 1, none⟩ = some (.slice A0_1 l0_1.length c0_1) := (qe BK152.out 1).trans rfl
              have hcz36_2 : wr.cell? ⟨gb152, 2, none⟩ = some (.slice A0_2 l0_2.length c0_2) := (qe BK152.out 2).trans rfl
              have hfz36_0 := qf BK152.out 0
              have hfz36_1 := qf BK152.out 1
              have hfz36_2 := qf BK152.out 2
              have p154 : 0 ≤ (x3_2 : Int) := qq (by first | (with_reducible assumption) | assumption)
              have q154 : x3_2 < (l0_2.length : Int) := qq (by first | (with_reducible assumption) | assumption)
              obtain ⟨ad154, e154, hx154_0, hx154_1, hx154_2, hx154_3, hx154_4, hx154_5⟩ := at_T62 HR0_2.out x3_2 p154 q154
              cases e154
              replace hx154_0 := (HB.out.cell (qa w _ hx154_0)).trans hx154_0
              replace hx154_1 := (HB.out.cell (qa w _ hx154_1)).trans hx154_1
              replace hx154_2 := (HB.out.cell (qa w _ hx154_2)).trans hx154_2
              replace hx154_3 := (HB.out.cell (qa w _ hx154_3)).trans hx154_3
              replace hx154_4 := (HB.out.cell (qa w _ hx154_4)).trans hx154_4
              replace hx154_5 := (HB.out.cell (qa w _ hx154_5)).trans hx154_5
              replace p154 := eq_true p154
              replace q154 := eq_true q154
              go_wp2_with (first | ((with_reducible refine gate_dst (N := 4) rfl ?_); (try (refine gate_guard (by rfl) ?_; dsimp only)); refine box_event ?hg (N := 4) ?hd (cs := #[.int .i64 0, .int .i64 0, .int .i64 0, .int .i64 0, .int .i64 0, .int .i64 0]) (t := 62) ?hr ?_; (case hd => rfl); (case hg => rfl); (case hr => first | (go_simp; done) | (go_simp; rfl)); intro gb155 hg w37 hbox hb; have n0_ := qo (qaa (g := gb152) (o := .cells #[.int .i64 a0_0, .slice A0_1 l0_1.length c0_1, .slice (some ad154) l0_2.length c0_2] 26 (0, 0)) (by (with_reducible repeat (first | refine ql ?_ _ | refine qm ?_ | refine qk ?_ _)); exact BK152.out) hb); have n1_ := qo (qt (by repeat (first | (with_reducible first | exact HB.out | apply qc | apply qb | apply qd | refine qn ?_ GE152.out) | exact HB.out)) hb); have n2_ := qo (hbox); have n3_ := qo ((by rw [hg]; exact (qu (by repeat (first | (with_reducible first | exact HB.out | apply qc | apply qb | apply qd | refine qn ?_ GE152.out) | exact HB.out))) : w.heap.size ≤ gb155)); have n4_ := qo ((by rw [hg]; exact (qu (by repeat (first | (with_reducible first | exact HB.out | apply qc | apply qb | apply qd | refine qn ?_ GE152.out) | exact HB.out))) : w.heap.size ≤ gb155)); have n5_ := qo ((by rw [hg]; exact qp (blk_lt (g := gb152) (o := .cells #[.int .i64 a0_0, .slice A0_1 l0_1.length c0_1, .slice (some ad154) l0_2.length c0_2] 26 (0, 0)) (by (with_reducible repeat (first | refine ql ?_ _ | refine qm ?_ | refine qk ?_ _)); exact BK152.out)) : gb152 ≠ gb155)); have n6_ := qo ((by rw [hg]; exact Nat.ne_of_gt (blk_lt (g := gb152) (o := .cells #[.int .i64 a0_0, .slice A0_1 l0_1.length c0_1, .slice (some ad154) l0_2.length c0_2] 26 (0, 0)) (by (with_reducible repeat (first | refine ql ?_ _ | refine qm ?_ | refine qk ?_ _)); exact BK152.out)) : gb155 ≠ gb152)); clear BK152; clear HB; have BK152 := n0_; have HB := n1_; have BK155 := n2_; have GW155 := n3_; have GE155 := n4_; have NB152_155 := n5_; have NB155_152 := n6_; clear n0_ n1_ n2_ n3_ n4_ n5_ n6_; clear hb hbox hg; have hnb38 := NB155_152.out; have hnc38 := NB152_155.out; have hcz39_0 : w37.cell? ⟨gb155, 0, none⟩ = some (.int .i64 0) := (qe BK155.out 0).trans rfl; have hcz39_1 : w37.cell? ⟨gb155, 1, none⟩ = some (.int .i64 0) := (qe BK155.out 1).trans rfl; have hcz39_2 : w37.cell? ⟨gb155, 2, none⟩ = some (.int .i64 0) := (qe BK155.out 2).trans rfl; have hcz39_3 : w37.cell? ⟨gb155, 3, none⟩ = some (.int .i64 0) := (qe BK155.out 3).trans rfl; have hcz39_4 : w37.cell? ⟨gb155, 4, none⟩ = some (.int .i64 0) := (qe BK155.out 4).trans rfl; have hcz39_5 : w37.cell? ⟨gb155, 5, none⟩ = some (.int .i64 0) := (qe BK155.out 5).trans rfl; have hfz39_0 := qf BK155.out 0; have hfz39_1 := qf BK155.out 1; have hfz39_2 := qf BK155.out 2; have hfz39_3 := qf BK155.out 3; have hfz39_4 := qf BK155.out 4; have hfz39_5 := qf BK155.out 5; have hcz40_0 : w37.cell? ⟨gb152, 0, none⟩ = some (.int .i64 a0_0) := (qe BK152.out 0).trans rfl; have hcz40_1 : w37.cell? ⟨gb152, 1, none⟩ = some (.slice A0_1 l0_1.length c0_1) := (qe BK152.out 1).trans rfl; have hcz40_2 : w37.cell? ⟨gb152, 2, none⟩ = some (.slice (some ad154) l0_2.length c0_2) := (qe BK152.out 2).trans rfl; have hfz40_0 := qf BK152.out 0; have hfz40_1 := qf BK152.out 1; have hfz40_2 := qf BK152.out 2) | ((with_reducible refine gate_callee (f := 60) rfl ?_); refine goesL_ (some 39) rfl rfl Try.func60 (by kernel_rfl) rfl #[.int .i64 ((rd_T62 l0_2 x3_2).f1), .int .i64 0, .int .i64 (wrap64 ((l0_1.length : Int) - 1))] rfl (by (try simp only [List.map_toArray, List.map_cons, List.map_nil]); first | done | rfl | (simp only [List.length_drop, List.length_take]; rfl)) ?_; (with_reducible refine (railplanref11_in.calls ((rd_T62 l0_2 x3_2).f1) 0 (wrap64 ((l0_1.length : Int) - 1)) true _ A13.out).mono ?_); rintro e w' ⟨rfl, ⟨nd, rfl⟩⟩; refine ⟨_, rfl, ?_⟩) | (go_at_call 60; (with_reducible refine (railplanref11_in.calls ((rd_T62 l0_2 x3_2).f2) 0 (wrap64 ((l0_1.length : Int) - 1)) true _ A15.out).mono ?_); rintro e w' ⟨rfl, ⟨nd, rfl⟩⟩))
              go_ret
              exact ⟨by first | rfl | (simp [errW_none, errW_some] <;> rfl) | (simp [*, errW_none, errW_some] <;> rfl), by repeat (first | (with_reducible first | exact HB.out | apply qc | apply qb | apply qd | refine qn ?_ GE152.out | refine qn ?_ GE155.out) | exact HB.out)⟩
             ·rw [if_neg c35] at H
              have c35b0 : decide (((rd_T62 l0_2 x3_2).f4) < ((rd_T62 l0_2 x3_2).f3)) = false := qad c35
              clear c35
              by_cases c41 : (wrap64 (((rd_T62 l0_2 x3_2).f4) - ((rd_T62 l0_2 x3_2).f3))) ≥ a0_0
              ·rw [if_pos c41] at H
               have c41b0 : decide (a0_0 ≤ (wrap64 (((rd_T62 l0_2 x3_2).f4) - ((rd_T62 l0_2 x3_2).f3)))) = true := qac c41
               clear c41
               obtain rfl := Option.some.inj H
               have hcz42_0 : wr.cell? ⟨gb152, 0, none⟩ = some (.int .i64 a0_0) := (qe BK152.out 0).trans rfl
               have hcz42_1 : wr.cell? ⟨gb152, 1, none⟩ = some (.slice A0_1 l0_1.length c0_1) := (qe BK152.out 1).trans rfl
               have hcz42_2 : wr.cell? ⟨gb152, 2, none⟩ = some (.slice A0_2 l0_2.length c0_2) := (qe BK152.out 2).trans rfl
               have hfz42_0 := qf BK152.out 0
               have hfz42_1 := qf BK152.out 1
               have hfz42_2 := qf BK152.out 2
               have p154 : 0 ≤ (x3_2 : Int) := qq (by first | (with_reducible assumption) | assumption)
               have q154 : x3_2 < (l0_2.length : Int) := qq (by first | (with_reducible assumption) | assumption)
               obtain ⟨ad154, e154, hx154_0, hx154_1, hx154_2, hx154_3, hx154_4, hx154_5⟩ := at_T62 HR0_2.out x3_2 p154 q154
               cases e154
               replace hx154_0 := (HB.out.cell (qa w _ hx154_0)).trans hx154_0
               replace hx154_1 := (HB.out.cell (qa w _ hx154_1)).trans hx154_1
               replace hx154_2 := (HB.out.cell (qa w _ hx154_2)).trans hx154_2
               replace hx154_3 := (HB.out.cell (qa w _ hx154_3)).trans hx154_3
               replace hx154_4 := (HB.out.cell (qa w _ hx154_4)).trans hx154_4
               replace hx154_5 := (HB.out.cell (qa w _ hx154_5)).trans hx154_5
               replace p154 := eq_true p154
               replace q154 := eq_true q154
               go_wp2_with (first | ((with_reducible refine gate_dst (N := 4) rfl ?_); (try (refine gate_guard (by rfl) ?_; dsimp only)); refine box_event ?hg (N := 4) ?hd (cs := #[.int .i64 0, .int .i64 0, .int .i64 0, .int .i64 0, .int .i64 0, .int .i64 0]) (t := 62) ?hr ?_; (case hd => rfl); (case hg => rfl); (case hr => first | (go_simp; done) | (go_simp; rfl)); intro gb155 hg w43 hbox hb; have n0_ := qo (qaa (g := gb152) (o := .cells #[.int .i64 a0_0, .slice A0_1 l0_1.length c0_1, .slice (some ad154) l0_2.length c0_2] 26 (0, 0)) (by (with_reducible repeat (first | refine ql ?_ _ | refine qm ?_ | refine qk ?_ _)); exact BK152.out) hb); have n1_ := qo (qt (by repeat (first | (with_reducible first | exact HB.out | apply qc | apply qb | apply qd | refine qn ?_ GE152.out) | exact HB.out)) hb); have n2_ := qo (hbox); have n3_ := qo ((by rw [hg]; exact (qu (by repeat (first | (with_reducible first | exact HB.out | apply qc | apply qb | apply qd | refine qn ?_ GE152.out) | exact HB.out))) : w.heap.size ≤ gb155)); have n4_ := qo ((by rw [hg]; exact (qu (by repeat (first | (with_reducible first | exact HB.out | apply qc | apply qb | apply qd | refine qn ?_ GE152.out) | exact HB.out))) : w.heap.size ≤ gb155)); have n5_ := qo ((by rw [hg]; exact qp (blk_lt (g := gb152) (o := .cells #[.int .i64 a0_0, .slice A0_1 l0_1.length c0_1, .slice (some ad154) l0_2.length c0_2] 26 (0, 0)) (by (with_reducible repeat (first | refine ql ?_ _ | refine qm ?_ | refine qk ?_ _)); exact BK152.out)) : gb152 ≠ gb155)); have n6_ := qo ((by rw [hg]; exact Nat.ne_of_gt (blk_lt (g := gb152) (o := .cells #[.int .i64 a0_0, .slice A0_1 l0_1.length c0_1, .slice (some ad154) l0_2.length c0_2] 26 (0, 0)) (by (with_reducible repeat (first | refine ql ?_ _ | refine qm ?_ | refine qk ?_ _)); exact BK152.out)) : gb155 ≠ gb152)); clear BK152; clear HB; have BK152 := n0_; have HB := n1_; have BK155 := n2_; have GW155 := n3_; have GE155 := n4_; have NB152_155 := n5_; have NB155_152 := n6_; clear n0_ n1_ n2_ n3_ n4_ n5_ n6_; clear hb hbox hg; have hnb44 := NB155_152.out; have hnc44 := NB152_155.out; have hcz45_0 : w43.cell? ⟨gb155, 0, none⟩ = some (.int .i64 0) := (qe BK155.out 0).trans rfl; have hcz45_1 : w43.cell? ⟨gb155, 1, none⟩ = some (.int .i64 0) := (qe BK155.out 1).trans rfl; have hcz45_2 : w43.cell? ⟨gb155, 2, none⟩ = some (.int .i64 0) := (qe BK155.out 2).trans rfl; have hcz45_3 : w43.cell? ⟨gb155, 3, none⟩ = some (.int .i64 0) := (qe BK155.out 3).trans rfl; have hcz45_4 : w43.cell? ⟨gb155, 4, none⟩ = some (.int .i64 0) := (qe BK155.out 4).trans rfl; have hcz45_5 : w43.cell? ⟨gb155, 5, none⟩ = some (.int .i64 0) := (qe BK155.out 5).trans rfl; have hfz45_0 := qf BK155.out 0; have hfz45_1 := qf BK155.out 1; have hfz45_2 := qf BK155.out 2; have hfz45_3 := qf BK155.out 3; have hfz45_4 := qf BK155.out 4; have hfz45_5 := qf BK155.out 5; have hcz46_0 : w43.cell? ⟨gb152, 0, none⟩ = some (.int .i64 a0_0) := (qe BK152.out 0).trans rfl; have hcz46_1 : w43.cell? ⟨gb152, 1, none⟩ = some (.slice A0_1 l0_1.length c0_1) := (qe BK152.out 1).trans rfl; have hcz46_2 : w43.cell? ⟨gb152, 2, none⟩ = some (.slice (some ad154) l0_2.length c0_2) := (qe BK152.out 2).trans rfl; have hfz46_0 := qf BK152.out 0; have hfz46_1 := qf BK152.out 1; have hfz46_2 := qf BK152.out 2) | ((with_reducible refine gate_callee (f := 60) rfl ?_); refine goesL_ (some 39) rfl rfl Try.func60 (by kernel_rfl) rfl #[.int .i64 ((rd_T62 l0_2 x3_2).f1), .int .i64 0, .int .i64 (wrap64 ((l0_1.length : Int) - 1))] rfl (by (try simp only [List.map_toArray, List.map_cons, List.map_nil]); first | done | rfl | (simp only [List.length_drop, List.length_take]; rfl)) ?_; (with_reducible refine (railplanref11_in.calls ((rd_T62 l0_2 x3_2).f1) 0 (wrap64 ((l0_1.length : Int) - 1)) true _ A13.out).mono ?_); rintro e w' ⟨rfl, ⟨nd, rfl⟩⟩; refine ⟨_, rfl, ?_⟩) | (go_at_call 60; (with_reducible refine (railplanref11_in.calls ((rd_T62 l0_2 x3_2).f2) 0 (wrap64 ((l0_1.length : Int) - 1)) true _ A15.out).mono ?_); rintro e w' ⟨rfl, ⟨nd, rfl⟩⟩))
               go_ret
               exact ⟨by first | rfl | (simp [errW_none, errW_some] <;> rfl) | (simp [*, errW_none, errW_some] <;> rfl), by repeat (first | (with_reducible first | exact HB.out | apply qc | apply qb | apply qd | refine qn ?_ GE152.out | refine qn ?_ GE155.out) | exact HB.out)⟩
              ·rw [if_neg c41] at H
               have c41b0 : decide (a0_0 ≤ (wrap64 (((rd_T62 l0_2 x3_2).f4) - ((rd_T62 l0_2 x3_2).f3)))) = false := qad c41
               clear c41
               replace H := Option.bind_eq_some_iff.mp H
               obtain ⟨t158, A470, H⟩ := H
               replace H : (if t158 = true then (railplanref11_Check.l0 k2 (wrap64 (x3_2 + 1)) a0_0 l0_1 l0_2) else (some false)) = some r := H
               have A47 := qo A470
               clear A470
               by_cases c48 : t158 = true
               ·subst c48
                have H1 : (railplanref11_Check.l0 k2 (wrap64 (x3_2 + 1)) a0_0 l0_1 l0_2) = some r := by rw [if_pos rfl] at H; exact H
                clear H
                have H := H1
                clear H1
                have H' := qo H
                clear H
                have hcz49_0 : wr.cell? ⟨gb152, 0, none⟩ = some (.int .i64 a0_0) := (qe BK152.out 0).trans rfl
                have hcz49_1 : wr.cell? ⟨gb152, 1, none⟩ = some (.slice A0_1 l0_1.length c0_1) := (qe BK152.out 1).trans rfl
                have hcz49_2 : wr.cell? ⟨gb152, 2, none⟩ = some (.slice A0_2 l0_2.length c0_2) := (qe BK152.out 2).trans rfl
                have hfz49_0 := qf BK152.out 0
                have hfz49_1 := qf BK152.out 1
                have hfz49_2 := qf BK152.out 2
                have p154 : 0 ≤ (x3_2 : Int) := qq (by first | (with_reducible assumption) | assumption)
                have q154 : x3_2 < (l0_2.length : Int) := qq (by first | (with_reducible assumption) | assumption)
                obtain ⟨ad154, e154, hx154_0, hx154_1, hx154_2, hx154_3, hx154_4, hx154_5⟩ := at_T62 HR0_2.out x3_2 p154 q154
                cases e154
                replace hx154_0 := (HB.out.cell (qa w _ hx154_0)).trans hx154_0
                replace hx154_1 := (HB.out.cell (qa w _ hx154_1)).trans hx154_1
                replace hx154_2 := (HB.out.cell (qa w _ hx154_2)).trans hx154_2
                replace hx154_3 := (HB.out.cell (qa w _ hx154_3)).trans hx154_3
                replace hx154_4 := (HB.out.cell (qa w _ hx154_4)).trans hx154_4
                replace hx154_5 := (HB.out.cell (qa w _ hx154_5)).trans hx154_5
                replace p154 := eq_true p154
                replace q154 := eq_true q154
                go_wp2_with (first | ((with_reducible refine gate_dst (N := 4) rfl ?_); (try (refine gate_guard (by rfl) ?_; dsimp only)); refine box_event ?hg (N := 4) ?hd (cs := #[.int .i64 0, .int .i64 0, .int .i64 0, .int .i64 0, .int .i64 0, .int .i64 0]) (t := 62) ?hr ?_; (case hd => rfl); (case hg => rfl); (case hr => first | (go_simp; done) | (go_simp; rfl)); intro gb155 hg w50 hbox hb; have n0_ := qo (qaa (g := gb152) (o := .cells #[.int .i64 a0_0, .slice A0_1 l0_1.length c0_1, .slice (some ad154) l0_2.length c0_2] 26 (0, 0)) (by (with_reducible repeat (first | refine ql ?_ _ | refine qm ?_ | refine qk ?_ _)); exact BK152.out) hb); have n1_ := qo (qt (by repeat (first | (with_reducible first | exact HB.out | apply qc | apply qb | apply qd | refine qn ?_ GE152.out) | exact HB.out)) hb); have n2_ := qo (hbox); have n3_ := qo ((by rw [hg]; exact (qu (by repeat (first | (with_reducible first | exact HB.out | apply qc | apply qb | apply qd | refine qn ?_ GE152.out) | exact HB.out))) : w.heap.size ≤ gb155)); have n4_ := qo ((by rw [hg]; exact (qu (by repeat (first | (with_reducible first | exact HB.out | apply qc | apply qb | apply qd | refine qn ?_ GE152.out) | exact HB.out))) : w.heap.size ≤ gb155)); have n5_ := qo ((by rw [hg]; exact qp (blk_lt (g := gb152) (o := .cells #[.int .i64 a0_0, .slice A0_1 l0_1.length c0_1, .slice (some ad154) l0_2.length c0_2] 26 (0, 0)) (by (with_reducible repeat (first | refine ql ?_ _ | refine qm ?_ | refine qk ?_ _)); exact BK152.out)) : gb152 ≠ gb155)); have n6_ := qo ((by rw [hg]; exact Nat.ne_of_gt (blk_lt (g := gb152) (o := .cells #[.int .i64 a0_0, .slice A0_1 l0_1.length c0_1, .slice (some ad154) l0_2.length c0_2] 26 (0, 0)) (by (with_reducible repeat (first | refine ql ?_ _ | refine qm ?_ | refine qk ?_ _)); exact BK152.out)) : gb155 ≠ gb152)); clear BK152; clear HB; have BK152 := n0_; have HB := n1_; have BK155 := n2_; have GW155 := n3_; have GE155 := n4_; have NB152_155 := n5_; have NB155_152 := n6_; clear n0_ n1_ n2_ n3_ n4_ n5_ n6_; clear hb hbox hg; have hnb51 := NB155_152.out; have hnc51 := NB152_155.out; have hcz52_0 : w50.cell? ⟨gb155, 0, none⟩ = some (.int .i64 0) := (qe BK155.out 0).trans rfl; have hcz52_1 : w50.cell? ⟨gb155, 1, none⟩ = some (.int .i64 0) := (qe BK155.out 1).trans rfl; have hcz52_2 : w50.cell? ⟨gb155, 2, none⟩ = some (.int .i64 0) := (qe BK155.out 2).trans rfl; have hcz52_3 : w50.cell? ⟨gb155, 3, none⟩ = some (.int .i64 0) := (qe BK155.out 3).trans rfl; have hcz52_4 : w50.cell? ⟨gb155, 4, none⟩ = some (.int .i64 0) := (qe BK155.out 4).trans rfl; have hcz52_5 : w50.cell? ⟨gb155, 5, none⟩ = some (.int .i64 0) := (qe BK155.out 5).trans rfl; have hfz52_0 := qf BK155.out 0; have hfz52_1 := qf BK155.out 1; have hfz52_2 := qf BK155.out 2; have hfz52_3 := qf BK155.out 3; have hfz52_4 := qf BK155.out 4; have hfz52_5 := qf BK155.out 5; have hcz53_0 : w50.cell? ⟨gb152, 0, none⟩ = some (.int .i64 a0_0) := (qe BK152.out 0).trans rfl; have hcz53_1 : w50.cell? ⟨gb152, 1, none⟩ = some (.slice A0_1 l0_1.length c0_1) := (qe BK152.out 1).trans rfl; have hcz53_2 : w50.cell? ⟨gb152, 2, none⟩ = some (.slice (some ad154) l0_2.length c0_2) := (qe BK152.out 2).trans rfl; have hfz53_0 := qf BK152.out 0; have hfz53_1 := qf BK152.out 1; have hfz53_2 := qf BK152.out 2) | ((with_reducible refine gate_callee (f := 60) rfl ?_); refine goesL_ (some 39) rfl rfl Try.func60 (by kernel_rfl) rfl #[.int .i64 ((rd_T62 l0_2 x3_2).f1), .int .i64 0, .int .i64 (wrap64 ((l0_1.length : Int) - 1))] rfl (by (try simp only [List.map_toArray, List.map_cons, List.map_nil]); first | done | rfl | (simp only [List.length_drop, List.length_take]; rfl)) ?_; (with_reducible refine (railplanref11_in.calls ((rd_T62 l0_2 x3_2).f1) 0 (wrap64 ((l0_1.length : Int) - 1)) true _ A13.out).mono ?_); rintro e w' ⟨rfl, ⟨nd, rfl⟩⟩; refine ⟨_, rfl, ?_⟩) | (go_at_call 60; (with_reducible refine (railplanref11_in.calls ((rd_T62 l0_2 x3_2).f2) 0 (wrap64 ((l0_1.length : Int) - 1)) true _ A15.out).mono ?_); rintro e w' ⟨rfl, ⟨nd, rfl⟩⟩) | (go_at_call 60; (with_reducible refine (railplanref11_in.calls ((rd_T62 l0_2 x3_2).f5) 0 1048576 true _ A47.out).mono ?_); rintro e w' ⟨rfl, ⟨nd, rfl⟩⟩))
                go_roundg k2
                case measure => have := HJ1.out; have := HK2.out; omega
                case rel => exact ⟨(wrap64 (x3_2 + 1)), (by first | rfl | (simp; done) | (simp [*]; done)), H', ⟨by have := HJ1.out; have := HK2.out; omega⟩, ⟨by (with_reducible repeat (first | refine ql ?_ _ | refine qm ?_ | refine qk ?_ _)); refine qam ?_ NB152_155.out _; (with_reducible repeat (first | refine ql ?_ _ | refine qm ?_ | refine qk ?_ _)); refine qam ?_ NB152_155.out _; (with_reducible repeat (first | refine ql ?_ _ | refine qm ?_ | refine qk ?_ _)); refine qam ?_ NB152_155.out _; (with_reducible repeat (first | refine ql ?_ _ | refine qm ?_ | refine qk ?_ _)); refine qam ?_ NB152_155.out _; (with_reducible repeat (first | refine ql ?_ _ | refine qm ?_ | refine qk ?_ _)); refine qam ?_ NB152_155.out _; (with_reducible repeat (first | refine ql ?_ _ | refine qm ?_ | refine qk ?_ _)); refine qam ?_ NB152_155.out _; (with_reducible repeat (first | refine ql ?_ _ | refine qm ?_ | refine qk ?_ _)); exact BK152.out⟩, ⟨by repeat (first | (with_reducible first | exact HB.out | apply qc | apply qb | apply qd | refine qn ?_ GE152.out | refine qn ?_ GE155.out) | exact HB.out)⟩⟩
               ·replace c48 := Bool.eq_false_iff.mpr c48
                subst c48
                have H1 : (some false) = some r := by rw [if_neg (show ¬ (false = true) by decide)] at H; exact H
                clear H
                have H := H1
                clear H1
                obtain rfl := Option.some.inj H
                have hcz54_0 : wr.cell? ⟨gb152, 0, none⟩ = some (.int .i64 a0_0) := (qe BK152.out 0).trans rfl
                have hcz54_1 : wr.cell? ⟨gb152, 1, none⟩ = some (.slice A0_1 l0_1.length c0_1) := (qe BK152.out 1).trans rfl
                have hcz54_2 : wr.cell? ⟨gb152, 2, none⟩ = some (.slice A0_2 l0_2.length c0_2) := (qe BK152.out 2).trans rfl
                have hfz54_0 := qf BK152.out 0
                have hfz54_1 := qf BK152.out 1
                have hfz54_2 := qf BK152.out 2
                have p154 : 0 ≤ (x3_2 : Int) := qq (by first | (with_reducible assumption) | assumption)
                have q154 : x3_2 < (l0_2.length : Int) := qq (by first | (with_reducible assumption) | assumption)
                obtain ⟨ad154, e154, hx154_0, hx154_1, hx154_2, hx154_3, hx154_4, hx154_5⟩ := at_T62 HR0_2.out x3_2 p154 q154
                cases e154
                replace hx154_0 := (HB.out.cell (qa w _ hx154_0)).trans hx154_0
                replace hx154_1 := (HB.out.cell (qa w _ hx154_1)).trans hx154_1
                replace hx154_2 := (HB.out.cell (qa w _ hx154_2)).trans hx154_2
                replace hx154_3 := (HB.out.cell (qa w _ hx154_3)).trans hx154_3
                replace hx154_4 := (HB.out.cell (qa w _ hx154_4)).trans hx154_4
                replace hx154_5 := (HB.out.cell (qa w _ hx154_5)).trans hx154_5
                replace p154 := eq_true p154
                replace q154 := eq_true q154
                go_wp2_with (first | ((with_reducible refine gate_dst (N := 4) rfl ?_); (try (refine gate_guard (by rfl) ?_; dsimp only)); refine box_event ?hg (N := 4) ?hd (cs := #[.int .i64 0, .int .i64 0, .int .i64 0, .int .i64 0, .int .i64 0, .int .i64 0]) (t := 62) ?hr ?_; (case hd => rfl); (case hg => rfl); (case hr => first | (go_simp; done) | (go_simp; rfl)); intro gb155 hg w55 hbox hb; have n0_ := qo (qaa (g := gb152) (o := .cells #[.int .i64 a0_0, .slice A0_1 l0_1.length c0_1, .slice (some ad154) l0_2.length c0_2] 26 (0, 0)) (by (with_reducible repeat (first | refine ql ?_ _ | refine qm ?_ | refine qk ?_ _)); exact BK152.out) hb); have n1_ := qo (qt (by repeat (first | (with_reducible first | exact HB.out | apply qc | apply qb | apply qd | refine qn ?_ GE152.out) | exact HB.out)) hb); have n2_ := qo (hbox); have n3_ := qo ((by rw [hg]; exact (qu (by repeat (first | (with_reducible first | exact HB.out | apply qc | apply qb | apply qd | refine qn ?_ GE152.out) | exact HB.out))) : w.heap.size ≤ gb155)); have n4_ := qo ((by rw [hg]; exact (qu (by repeat (first | (with_reducible first | exact HB.out | apply qc | apply qb | apply qd | refine qn ?_ GE152.out) | exact HB.out))) : w.heap.size ≤ gb155)); have n5_ := qo ((by rw [hg]; exact qp (blk_lt (g := gb152) (o := .cells #[.int .i64 a0_0, .slice A0_1 l0_1.length c0_1, .slice (some ad154) l0_2.length c0_2] 26 (0, 0)) (by (with_reducible repeat (first | refine ql ?_ _ | refine qm ?_ | refine qk ?_ _)); exact BK152.out)) : gb152 ≠ gb155)); have n6_ := qo ((by rw [hg]; exact Nat.ne_of_gt (blk_lt (g := gb152) (o := .cells #[.int .i64 a0_0, .slice A0_1 l0_1.length c0_1, .slice (some ad154) l0_2.length c0_2] 26 (0, 0)) (by (with_reducible repeat (first | refine ql ?_ _ | refine qm ?_ | refine qk ?_ _)); exact BK152.out)) : gb155 ≠ gb152)); clear BK152; clear HB; have BK152 := n0_; have HB := n1_; have BK155 := n2_; have GW155 := n3_; have GE155 := n4_; have NB152_155 := n5_; have NB155_152 := n6_; clear n0_ n1_ n2_ n3_ n4_ n5_ n6_; clear hb hbox hg; have hnb56 := NB155_152.out; have hnc56 := NB152_155.out; have hcz57_0 : w55.cell? ⟨gb155, 0, none⟩ = some (.int .i64 0) := (qe BK155.out 0).trans rfl; have hcz57_1 : w55.cell? ⟨gb155, 1, none⟩ = some (.int .i64 0) := (qe BK155.out 1).trans rfl; have hcz57_2 : w55.cell? ⟨gb155, 2, none⟩ = some (.int .i64 0) := (qe BK155.out 2).trans rfl; have hcz57_3 : w55.cell? ⟨gb155, 3, none⟩ = some (.int .i64 0) := (qe BK155.out 3).trans rfl; have hcz57_4 : w55.cell? ⟨gb155, 4, none⟩ = some (.int .i64 0) := (qe BK155.out 4).trans rfl; have hcz57_5 : w55.cell? ⟨gb155, 5, none⟩ = some (.int .i64 0) := (qe BK155.out 5).trans rfl; have hfz57_0 := qf BK155.out 0; have hfz57_1 := qf BK155.out 1; have hfz57_2 := qf BK155.out 2; have hfz57_3 := qf BK155.out 3; have hfz57_4 := qf BK155.out 4; have hfz57_5 := qf BK155.out 5; have hcz58_0 : w55.cell? ⟨gb152, 0, none⟩ = some (.int .i64 a0_0) := (qe BK152.out 0).trans rfl; have hcz58_1 : w55.cell? ⟨gb152, 1, none⟩ = some (.slice A0_1 l0_1.length c0_1) := (qe BK152.out 1).trans rfl; have hcz58_2 : w55.cell? ⟨gb152, 2, none⟩ = some (.slice (some ad154) l0_2.length c0_2) := (qe BK152.out 2).trans rfl; have hfz58_0 := qf BK152.out 0; have hfz58_1 := qf BK152.out 1; have hfz58_2 := qf BK152.out 2) | ((with_reducible refine gate_callee (f := 60) rfl ?_); refine goesL_ (some 39) rfl rfl Try.func60 (by kernel_rfl) rfl #[.int .i64 ((rd_T62 l0_2 x3_2).f1), .int .i64 0, .int .i64 (wrap64 ((l0_1.length : Int) - 1))] rfl (by (try simp only [List.map_toArray, List.map_cons, List.map_nil]); first | done | rfl | (simp only [List.length_drop, List.length_take]; rfl)) ?_; (with_reducible refine (railplanref11_in.calls ((rd_T62 l0_2 x3_2).f1) 0 (wrap64 ((l0_1.length : Int) - 1)) true _ A13.out).mono ?_); rintro e w' ⟨rfl, ⟨nd, rfl⟩⟩; refine ⟨_, rfl, ?_⟩) | (go_at_call 60; (with_reducible refine (railplanref11_in.calls ((rd_T62 l0_2 x3_2).f2) 0 (wrap64 ((l0_1.length : Int) - 1)) true _ A15.out).mono ?_); rintro e w' ⟨rfl, ⟨nd, rfl⟩⟩) | (go_at_call 60; (with_reducible refine (railplanref11_in.calls ((rd_T62 l0_2 x3_2).f5) 0 1048576 false _ A47.out).mono ?_); rintro e w' ⟨rfl, ⟨nd, rfl⟩⟩))
                go_ret
                exact ⟨by first | rfl | (simp [errW_none, errW_some] <;> rfl) | (simp [*, errW_none, errW_some] <;> rfl), by repeat (first | (with_reducible first | exact HB.out | apply qc | apply qb | apply qd | refine qn ?_ GE152.out | refine qn ?_ GE155.out) | exact HB.out)⟩
         ·replace c16 := Bool.eq_false_iff.mpr c16
          subst c16
          have H1 : (some false) = some r := by rw [if_neg (show ¬ (false = true) by decide)] at H; exact H
          clear H
          have H := H1
          clear H1
          obtain rfl := Option.some.inj H
          have hcz59_0 : wr.cell? ⟨gb152, 0, none⟩ = some (.int .i64 a0_0) := (qe BK152.out 0).trans rfl
          have hcz59_1 : wr.cell? ⟨gb152, 1, none⟩ = some (.slice A0_1 l0_1.length c0_1) := (qe BK152.out 1).trans rfl
          have hcz59_2 : wr.cell? ⟨gb152, 2, none⟩ = some (.slice A0_2 l0_2.length c0_2) := (qe BK152.out 2).trans rfl
          have hfz59_0 := qf BK152.out 0
          have hfz59_1 := qf BK152.out 1
          have hfz59_2 := qf BK152.out 2
          have p154 : 0 ≤ (x3_2 : Int) := qq (by first | (with_reducible assumption) | assumption)
          have q154 : x3_2 < (l0_2.length : Int) := qq (by first | (with_reducible assumption) | assumption)
          obtain ⟨ad154, e154, hx154_0, hx154_1, hx154_2, hx154_3, hx154_4, hx154_5⟩ := at_T62 HR0_2.out x3_2 p154 q154
          cases e154
          replace hx154_0 := (HB.out.cell (qa w _ hx154_0)).trans hx154_0
          replace hx154_1 := (HB.out.cell (qa w _ hx154_1)).trans hx154_1
          replace hx154_2 := (HB.out.cell (qa w _ hx154_2)).trans hx154_2
          replace hx154_3 := (HB.out.cell (qa w _ hx154_3)).trans hx154_3
          replace hx154_4 := (HB.out.cell (qa w _ hx154_4)).trans hx154_4
          replace hx154_5 := (HB.out.cell (qa w _ hx154_5)).trans hx154_5
          replace p154 := eq_true p154
          replace q154 := eq_true q154
          go_wp2_with (first | ((with_reducible refine gate_dst (N := 4) rfl ?_); (try (refine gate_guard (by rfl) ?_; dsimp only)); refine box_event ?hg (N := 4) ?hd (cs := #[.int .i64 0, .int .i64 0, .int .i64 0, .int .i64 0, .int .i64 0, .int .i64 0]) (t := 62) ?hr ?_; (case hd => rfl); (case hg => rfl); (case hr => first | (go_simp; done) | (go_simp; rfl)); intro gb155 hg w60 hbox hb; have n0_ := qo (qaa (g := gb152) (o := .cells #[.int .i64 a0_0, .slice A0_1 l0_1.length c0_1, .slice (some ad154) l0_2.length c0_2] 26 (0, 0)) (by (with_reducible repeat (first | refine ql ?_ _ | refine qm ?_ | refine qk ?_ _)); exact BK152.out) hb); have n1_ := qo (qt (by repeat (first | (with_reducible first | exact HB.out | apply qc | apply qb | apply qd | refine qn ?_ GE152.out) | exact HB.out)) hb); have n2_ := qo (hbox); have n3_ := qo ((by rw [hg]; exact (qu (by repeat (first | (with_reducible first | exact HB.out | apply qc | apply qb | apply qd | refine qn ?_ GE152.out) | exact HB.out))) : w.heap.size ≤ gb155)); have n4_ := qo ((by rw [hg]; exact (qu (by repeat (first | (with_reducible first | exact HB.out | apply qc | apply qb | apply qd | refine qn ?_ GE152.out) | exact HB.out))) : w.heap.size ≤ gb155)); have n5_ := qo ((by rw [hg]; exact qp (blk_lt (g := gb152) (o := .cells #[.int .i64 a0_0, .slice A0_1 l0_1.length c0_1, .slice (some ad154) l0_2.length c0_2] 26 (0, 0)) (by (with_reducible repeat (first | refine ql ?_ _ | refine qm ?_ | refine qk ?_ _)); exact BK152.out)) : gb152 ≠ gb155)); have n6_ := qo ((by rw [hg]; exact Nat.ne_of_gt (blk_lt (g := gb152) (o := .cells #[.int .i64 a0_0, .slice A0_1 l0_1.length c0_1, .slice (some ad154) l0_2.length c0_2] 26 (0, 0)) (by (with_reducible repeat (first | refine ql ?_ _ | refine qm ?_ | refine qk ?_ _)); exact BK152.out)) : gb155 ≠ gb152)); clear BK152; clear HB; have BK152 := n0_; have HB := n1_; have BK155 := n2_; have GW155 := n3_; have GE155 := n4_; have NB152_155 := n5_; have NB155_152 := n6_; clear n0_ n1_ n2_ n3_ n4_ n5_ n6_; clear hb hbox hg; have hnb61 := NB155_152.out; have hnc61 := NB152_155.out; have hcz62_0 : w60.cell? ⟨gb155, 0, none⟩ = some (.int .i64 0) := (qe BK155.out 0).trans rfl; have hcz62_1 : w60.cell? ⟨gb155, 1, none⟩ = some (.int .i64 0) := (qe BK155.out 1).trans rfl; have hcz62_2 : w60.cell? ⟨gb155, 2, none⟩ = some (.int .i64 0) := (qe BK155.out 2).trans rfl; have hcz62_3 : w60.cell? ⟨gb155, 3, none⟩ = some (.int .i64 0) := (qe BK155.out 3).trans rfl; have hcz62_4 : w60.cell? ⟨gb155, 4, none⟩ = some (.int .i64 0) := (qe BK155.out 4).trans rfl; have hcz62_5 : w60.cell? ⟨gb155, 5, none⟩ = some (.int .i64 0) := (qe BK155.out 5).trans rfl; have hfz62_0 := qf BK155.out 0; have hfz62_1 := qf BK155.out 1; have hfz62_2 := qf BK155.out 2; have hfz62_3 := qf BK155.out 3; have hfz62_4 := qf BK155.out 4; have hfz62_5 := qf BK155.out 5; have hcz63_0 : w60.cell? ⟨gb152, 0, none⟩ = some (.int .i64 a0_0) := (qe BK152.out 0).trans rfl; have hcz63_1 : w60.cell? ⟨gb152, 1, none⟩ = some (.slice A0_1 l0_1.length c0_1) := (qe BK152.out 1).trans rfl; have hcz63_2 : w60.cell? ⟨gb152, 2, none⟩ = some (.slice (some ad154) l0_2.length c0_2) := (qe BK152.out 2).trans rfl; have hfz63_0 := qf BK152.out 0; have hfz63_1 := qf BK152.out 1; have hfz63_2 := qf BK152.out 2) | ((with_reducible refine gate_callee (f := 60) rfl ?_); refine goesL_ (some 39) rfl rfl Try.func60 (by kernel_rfl) rfl #[.int .i64 ((rd_T62 l0_2 x3_2).f1), .int .i64 0, .int .i64 (wrap64 ((l0_1.length : Int) - 1))] rfl (by (try simp only [List.map_toArray, List.map_cons, List.map_nil]); first | done | rfl | (simp only [List.length_drop, List.length_take]; rfl)) ?_; (with_reducible refine (railplanref11_in.calls ((rd_T62 l0_2 x3_2).f1) 0 (wrap64 ((l0_1.length : Int) - 1)) true _ A13.out).mono ?_); rintro e w' ⟨rfl, ⟨nd, rfl⟩⟩; refine ⟨_, rfl, ?_⟩) | (go_at_call 60; (with_reducible refine (railplanref11_in.calls ((rd_T62 l0_2 x3_2).f2) 0 (wrap64 ((l0_1.length : Int) - 1)) false _ A15.out).mono ?_); rintro e w' ⟨rfl, ⟨nd, rfl⟩⟩))
          go_ret
          exact ⟨by first | rfl | (simp [errW_none, errW_some] <;> rfl) | (simp [*, errW_none, errW_some] <;> rfl), by repeat (first | (with_reducible first | exact HB.out | apply qc | apply qb | apply qd | refine qn ?_ GE152.out | refine qn ?_ GE155.out) | exact HB.out)⟩
        ·replace c14 := Bool.eq_false_iff.mpr c14
         subst c14
         have H1 : (some false) = some r := by rw [if_neg (show ¬ (false = true) by decide)] at H; exact H
         clear H
         have H := H1
         clear H1
         obtain rfl := Option.some.inj H
         have hcz64_0 : wr.cell? ⟨gb152, 0, none⟩ = some (.int .i64 a0_0) := (qe BK152.out 0).trans rfl
         have hcz64_1 : wr.cell? ⟨gb152, 1, none⟩ = some (.slice A0_1 l0_1.length c0_1) := (qe BK152.out 1).trans rfl
         have hcz64_2 : wr.cell? ⟨gb152, 2, none⟩ = some (.slice A0_2 l0_2.length c0_2) := (qe BK152.out 2).trans rfl
         have hfz64_0 := qf BK152.out 0
         have hfz64_1 := qf BK152.out 1
         have hfz64_2 := qf BK152.out 2
         have p154 : 0 ≤ (x3_2 : Int) := qq (by first | (with_reducible assumption) | assumption)
         have q154 : x3_2 < (l0_2.length : Int) := qq (by first | (with_reducible assumption) | assumption)
         obtain ⟨ad154, e154, hx154_0, hx154_1, hx154_2, hx154_3, hx154_4, hx154_5⟩ := at_T62 HR0_2.out x3_2 p154 q154
         cases e154
         replace hx154_0 := (HB.out.cell (qa w _ hx154_0)).trans hx154_0
         replace hx154_1 := (HB.out.cell (qa w _ hx154_1)).trans hx154_1
         replace hx154_2 := (HB.out.cell (qa w _ hx154_2)).trans hx154_2
         replace hx154_3 := (HB.out.cell (qa w _ hx154_3)).trans hx154_3
         replace hx154_4 := (HB.out.cell (qa w _ hx154_4)).trans hx154_4
         replace hx154_5 := (HB.out.cell (qa w _ hx154_5)).trans hx154_5
         replace p154 := eq_true p154
         replace q154 := eq_true q154
         go_wp2_with (first | ((with_reducible refine gate_dst (N := 4) rfl ?_); (try (refine gate_guard (by rfl) ?_; dsimp only)); refine box_event ?hg (N := 4) ?hd (cs := #[.int .i64 0, .int .i64 0, .int .i64 0, .int .i64 0, .int .i64 0, .int .i64 0]) (t := 62) ?hr ?_; (case hd => rfl); (case hg => rfl); (case hr => first | (go_simp; done) | (go_simp; rfl)); intro gb155 hg w65 hbox hb; have n0_ := qo (qaa (g := gb152) (o := .cells #[.int .i64 a0_0, .slice A0_1 l0_1.length c0_1, .slice (some ad154) l0_2.length c0_2] 26 (0, 0)) (by (with_reducible repeat (first | refine ql ?_ _ | refine qm ?_ | refine qk ?_ _)); exact BK152.out) hb); have n1_ := qo (qt (by repeat (first | (with_reducible first | exact HB.out | apply qc | apply qb | apply qd | refine qn ?_ GE152.out) | exact HB.out)) hb); have n2_ := qo (hbox); have n3_ := qo ((by rw [hg]; exact (qu (by repeat (first | (with_reducible first | exact HB.out | apply qc | apply qb | apply qd | refine qn ?_ GE152.out) | exact HB.out))) : w.heap.size ≤ gb155)); have n4_ := qo ((by rw [hg]; exact (qu (by repeat (first | (with_reducible first | exact HB.out | apply qc | apply qb | apply qd | refine qn ?_ GE152.out) | exact HB.out))) : w.heap.size ≤ gb155)); have n5_ := qo ((by rw [hg]; exact qp (blk_lt (g := gb152) (o := .cells #[.int .i64 a0_0, .slice A0_1 l0_1.length c0_1, .slice (some ad154) l0_2.length c0_2] 26 (0, 0)) (by (with_reducible repeat (first | refine ql ?_ _ | refine qm ?_ | refine qk ?_ _)); exact BK152.out)) : gb152 ≠ gb155)); have n6_ := qo ((by rw [hg]; exact Nat.ne_of_gt (blk_lt (g := gb152) (o := .cells #[.int .i64 a0_0, .slice A0_1 l0_1.length c0_1, .slice (some ad154) l0_2.length c0_2] 26 (0, 0)) (by (with_reducible repeat (first | refine ql ?_ _ | refine qm ?_ | refine qk ?_ _)); exact BK152.out)) : gb155 ≠ gb152)); clear BK152; clear HB; have BK152 := n0_; have HB := n1_; have BK155 := n2_; have GW155 := n3_; have GE155 := n4_; have NB152_155 := n5_; have NB155_152 := n6_; clear n0_ n1_ n2_ n3_ n4_ n5_ n6_; clear hb hbox hg; have hnb66 := NB155_152.out; have hnc66 := NB152_155.out; have hcz67_0 : w65.cell? ⟨gb155, 0, none⟩ = some (.int .i64 0) := (qe BK155.out 0).trans rfl; have hcz67_1 : w65.cell? ⟨gb155, 1, none⟩ = some (.int .i64 0) := (qe BK155.out 1).trans rfl; have hcz67_2 : w65.cell? ⟨gb155, 2, none⟩ = some (.int .i64 0) := (qe BK155.out 2).trans rfl; have hcz67_3 : w65.cell? ⟨gb155, 3, none⟩ = some (.int .i64 0) := (qe BK155.out 3).trans rfl; have hcz67_4 : w65.cell? ⟨gb155, 4, none⟩ = some (.int .i64 0) := (qe BK155.out 4).trans rfl; have hcz67_5 : w65.cell? ⟨gb155, 5, none⟩ = some (.int .i64 0) := (qe BK155.out 5).trans rfl; have hfz67_0 := qf BK155.out 0; have hfz67_1 := qf BK155.out 1; have hfz67_2 := qf BK155.out 2; have hfz67_3 := qf BK155.out 3; have hfz67_4 := qf BK155.out 4; have hfz67_5 := qf BK155.out 5; have hcz68_0 : w65.cell? ⟨gb152, 0, none⟩ = some (.int .i64 a0_0) := (qe BK152.out 0).trans rfl; have hcz68_1 : w65.cell? ⟨gb152, 1, none⟩ = some (.slice A0_1 l0_1.length c0_1) := (qe BK152.out 1).trans rfl; have hcz68_2 : w65.cell? ⟨gb152, 2, none⟩ = some (.slice (some ad154) l0_2.length c0_2) := (qe BK152.out 2).trans rfl; have hfz68_0 := qf BK152.out 0; have hfz68_1 := qf BK152.out 1; have hfz68_2 := qf BK152.out 2) | ((with_reducible refine gate_callee (f := 60) rfl ?_); refine goesL_ (some 39) rfl rfl Try.func60 (by kernel_rfl) rfl #[.int .i64 ((rd_T62 l0_2 x3_2).f1), .int .i64 0, .int .i64 (wrap64 ((l0_1.length : Int) - 1))] rfl (by (try simp only [List.map_toArray, List.map_cons, List.map_nil]); first | done | rfl | (simp only [List.length_drop, List.length_take]; rfl)) ?_; (with_reducible refine (railplanref11_in.calls ((rd_T62 l0_2 x3_2).f1) 0 (wrap64 ((l0_1.length : Int) - 1)) false _ A13.out).mono ?_); rintro e w' ⟨rfl, ⟨nd, rfl⟩⟩; refine ⟨_, rfl, ?_⟩))
         go_ret
         exact ⟨by first | rfl | (simp [errW_none, errW_some] <;> rfl) | (simp [*, errW_none, errW_some] <;> rfl), by repeat (first | (with_reducible first | exact HB.out | apply qc | apply qb | apply qd | refine qn ?_ GE152.out | refine qn ?_ GE155.out) | exact HB.out)⟩
       ·rw [if_neg c12] at H
        exact absurd H (by simp)
      ·rw [if_neg c11] at H
       have c11b0 : decide (x3_2 < (l0_2.length : Int)) = false := qad c11
       clear c11
       obtain rfl := Option.some.inj H
       have hcz69_0 : wr.cell? ⟨gb152, 0, none⟩ = some (.int .i64 a0_0) := (qe BK152.out 0).trans rfl
       have hcz69_1 : wr.cell? ⟨gb152, 1, none⟩ = some (.slice A0_1 l0_1.length c0_1) := (qe BK152.out 1).trans rfl
       have hcz69_2 : wr.cell? ⟨gb152, 2, none⟩ = some (.slice A0_2 l0_2.length c0_2) := (qe BK152.out 2).trans rfl
       have hfz69_0 := qf BK152.out 0
       have hfz69_1 := qf BK152.out 1
       have hfz69_2 := qf BK152.out 2
       go_wp2
       go_ret
       exact ⟨by first | rfl | (simp [errW_none, errW_some] <;> rfl) | (simp [*, errW_none, errW_some] <;> rfl), by repeat (first | (with_reducible first | exact HB.out | apply qc | apply qb | apply qd | refine qn ?_ GE152.out) | exact HB.out)⟩

end Go.Proofs.Ytpioelilfhkfdaa.XAll
