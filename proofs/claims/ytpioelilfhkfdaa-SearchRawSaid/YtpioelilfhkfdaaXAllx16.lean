-- This session's own text, written by wip/tools/xall.py after the form of the kit's print.
import Derived.Test.YtpioelilfhkfdaaXAllx0
import Derived.Test.YtpioelilfhkfdaaXAllx14
import Derived.Test.YtpioelilfhkfdaaXAllx15
namespace Go.Proofs.Ytpioelilfhkfdaa.XAll
open Go.RowKit Go.Proofs.YtpioelilfhkfdaaW.PrintWords Go.Proofs.YtpioelilfhkfdaaW.PrintLast Go.Proofs.YtpioelilfhkfdaaW.PrintMore
attribute [local go_sem] max2_int min2_int max_two min_two max_three min_three max_four min_four   -- for this text's walks alone
set_option linter.unusedVariables false
set_option linter.unusedSimpArgs false

/-! ### railplanref11_Cost: function 26 -/
def railplanref11_Cost.l0 : Nat → List Int → Int → Int → Int → List (S60) → List (S62) → Option (Int × Int)
 | 0, _, _, _, _, _, _ => none
 | k + 1, x1, x6, x7, x193000, x193001, x193002 => if x7 < (x193002.length : Int) then (if 0 ≤ x7 then ((railplanref11_Lasts.f x193000 x193001 x193002 x1 ((rd_T62 x193002 x7).f0) ((rd_T62 x193002 x7).f1) ((rd_T62 x193002 x7).f2) ((rd_T62 x193002 x7).f3) ((rd_T62 x193002 x7).f4) ((rd_T62 x193002 x7).f5)).bind fun t196 => (railplanref11_Cost.l0 k x1 (wrap64 (x6 + (wrap64 (((rd_T62 x193002 x7).f5) * t196)))) (wrap64 (x7 + 1)) x193000 x193001 x193002)) else (none)) else (some (x6, 0))
def railplanref11_Cost.f (k : Nat) (a0_0 : Int) (l0_1 : List (S60)) (l0_2 : List (S62)) (l1 : List Int) : Option (Int × Int) := (railplanref11_Good.f k a0_0 l0_1 l0_2 l1).bind fun t193 => (if t193 = true then (railplanref11_Cost.l0 k l1 0 0 a0_0 l0_1 l0_2) else (some (0, 1)))
theorem railplanref11_Cost.mono_l : ∀ k, (∀ y0 y1 y2 y3 y4 y5, LeO (railplanref11_Cost.l0 k y0 y1 y2 y3 y4 y5) (railplanref11_Cost.l0 (k + 1) y0 y1 y2 y3 y4 y5))
 | 0 => fun _ _ _ _ _ _ r h => by simp [railplanref11_Cost.l0] at h
 | k + 1 => by
  have ih0 := railplanref11_Cost.mono_l k
  ·intro y0 y1 y2 y3 y4 y5
   unfold railplanref11_Cost.l0
   repeat' first
   | (with_reducible exact ih0 _ _ _ _ _ _)
   | (with_reducible exact railplanref11_Good.mono _ _ _ _ _)
   | (with_reducible exact LeO.refl _)
   | (with_reducible exact LeO.none _)
   | (with_reducible refine LeO.ite ?_ ?_)
   | (with_reducible refine LeO.bind ?_ (fun _ => ?_))
   | exact ih0 _ _ _ _ _ _
   | exact railplanref11_Good.mono _ _ _ _ _
   | exact LeO.none _
   | refine LeO.ite ?_ ?_
   | refine LeO.bind ?_ (fun _ => ?_)
theorem railplanref11_Cost.mono : ∀ a0 a1 a2 a3 k, LeO (railplanref11_Cost.f k a0 a1 a2 a3) (railplanref11_Cost.f (k + 1) a0 a1 a2 a3) := by
 intro a0 a1 a2 a3 k
 have ih0 := railplanref11_Cost.mono_l k
 unfold railplanref11_Cost.f
 repeat' first
   | (with_reducible exact ih0 _ _ _ _ _ _)
   | (with_reducible exact railplanref11_Good.mono _ _ _ _ _)
   | (with_reducible exact LeO.refl _)
   | (with_reducible exact LeO.none _)
   | (with_reducible refine LeO.ite ?_ ?_)
   | (with_reducible refine LeO.bind ?_ (fun _ => ?_))
   | exact ih0 _ _ _ _ _ _
   | exact railplanref11_Good.mono _ _ _ _ _
   | exact LeO.none _
   | refine LeO.ite ?_ ?_
   | refine LeO.bind ?_ (fun _ => ?_)
def railplanref11_Cost.T7 : Bool × List (List Nat × List Nat) := (true, [([], []), ([], []), ([1], [1]), ([], []), ([2, 3], [2, 3]), ([4], [4]), ([5], [5]), ([], []), ([], []), ([], []), ([9], [9]), ([], []), ([10, 11], [10, 11]), ([12], [12]), ([7, 8, 13], [7, 8, 13]), ([6, 14], [6, 14]), ([0, 15], [0, 15]), ([16, 14, 0, 1, 2, 3, 4, 5, 6, 7, 8, 9, 10, 11, 12, 13, 14, 15, 16], [0, 16])])
def railplanref11_Cost.B7 : List Nat := [0, 0, 2, 0, 14, 30, 62, 0, 0, 0, 512, 0, 3584, 7680, 16256, 32766, 65535, 131071]
theorem railplanref11_Cost.tab7 : rtab .any (opsOf Try.f26 7) = railplanref11_Cost.T7 := by kernel_rfl
theorem railplanref11_Cost.bits7 : waitsOk railplanref11_Cost.T7.2 railplanref11_Cost.B7 = true := by kernel_rfl
set_option maxHeartbeats 8000000 in
set_option maxRecDepth 100000 in
theorem railplanref11_Cost.calls (k : Nat) (a0_0 : Int) (A0_1 : Option Addr) (c0_1 : Nat) (l0_1 : List (S60)) (A0_2 : Option Addr) (c0_2 : Nat) (l0_2 : List (S62)) (A1 : Option Addr) (c1 : Nat) (l1 : List Int) (r1 : Int) (r2 : Int) (w : World) (hr0_1 : Kd.C k60 w A0_1 l0_1.length l0_1) (hc0_1 : l0_1.length ≤ c0_1) (hr0_2 : Kd.C k62 w A0_2 l0_2.length l0_2) (hc0_2 : l0_2.length ≤ c0_2) (hr1 : Kd.C (Kd.int .i64) w A1 l1.length l1) (hc1 : l1.length ≤ c1) (h : railplanref11_Cost.f k a0_0 l0_1 l0_2 l1 = some (r1, r2)) :
  Calls Try.prog 26 #[.agg #[.int .i64 a0_0, .slice A0_1 l0_1.length c0_1, .slice A0_2 l0_2.length c0_2], .slice A1 l1.length c1] w fun e w' => e = .returned (.tuple #[.int .i64 r1, .int .i64 r2]) ∧ Below w.heap.size w w' := by
 have hu26 := Try.underlying26
 have hu62 := Try.underlying62
 have HR0_1 := qo hr0_1
 have HC0_1 := qo hc0_1
 clear hr0_1 hc0_1
 have HR0_2 := qo hr0_2
 have HC0_2 := qo hc0_2
 clear hr0_2 hc0_2
 have HR1 := qo hr1
 have HC1 := qo hc1
 clear hr1 hc1
 have HB := qo (qaj w.heap.size w)
 have H : ((railplanref11_Good.f k a0_0 l0_1 l0_2 l1).bind fun t193 => (if t193 = true then (railplanref11_Cost.l0 k l1 0 0 a0_0 l0_1 l0_2) else (some (0, 1)))) = some (r1, r2) := h
 clear h
 replace H := Option.bind_eq_some_iff.mp H
 obtain ⟨t193, A30, H⟩ := H
 replace H : (if t193 = true then (railplanref11_Cost.l0 k l1 0 0 a0_0 l0_1 l0_2) else (some (0, 1))) = some (r1, r2) := H
 have A3 := qo A30
 clear A30
 by_cases c4 : t193 = true
 ·subst c4
  have H1 : (railplanref11_Cost.l0 k l1 0 0 a0_0 l0_1 l0_2) = some (r1, r2) := by rw [if_pos rfl] at H; exact H
  clear H
  have H := H1
  clear H1
  have H' := qo H
  clear H
  go_enter Try.func26, Try.ntmps26
  go_wp2_with (first | ((with_reducible refine gate_dst (N := 2) rfl ?_); refine box_event ?hg (N := 2) ?hd (cs := #[.int .i64 a0_0, .slice A0_1 l0_1.length c0_1, .slice A0_2 l0_2.length c0_2]) (t := 26) ?hr ?_; (case hd => rfl); (case hg => rfl); (case hr => first | (go_simp; done) | (go_simp; rfl)); intro gb192 hg w5 hbox hb; have n0_ := qo (qt (by repeat (first | (with_reducible first | exact HB.out | apply qc | apply qb | apply qd) | exact HB.out)) hb); have n1_ := qo (hbox); have n2_ := qo ((by rw [hg]; exact (qu (by repeat (first | (with_reducible first | exact HB.out | apply qc | apply qb | apply qd) | exact HB.out))) : w.heap.size ≤ gb192)); have n3_ := qo ((by rw [hg]; exact (qu (by repeat (first | (with_reducible first | exact HB.out | apply qc | apply qb | apply qd) | exact HB.out))) : w.heap.size ≤ gb192)); clear HB; have HB := n0_; have BK192 := n1_; have GW192 := n2_; have GE192 := n3_; clear n0_ n1_ n2_ n3_; clear hb hbox hg; have hcz6_0 : w5.cell? ⟨gb192, 0, none⟩ = some (.int .i64 a0_0) := (qe BK192.out 0).trans rfl; have hcz6_1 : w5.cell? ⟨gb192, 1, none⟩ = some (.slice A0_1 l0_1.length c0_1) := (qe BK192.out 1).trans rfl; have hcz6_2 : w5.cell? ⟨gb192, 2, none⟩ = some (.slice A0_2 l0_2.length c0_2) := (qe BK192.out 2).trans rfl; have hfz6_0 := qf BK192.out 0; have hfz6_1 := qf BK192.out 1; have hfz6_2 := qf BK192.out 2) | ((with_reducible refine gate_callee (f := 41) rfl ?_); refine goesL_ (some 10) rfl rfl Try.func41 (by kernel_rfl) rfl #[.agg #[.int .i64 a0_0, .slice A0_1 l0_1.length c0_1, .slice A0_2 l0_2.length c0_2], .slice A1 l1.length c1] rfl (by (try simp only [List.map_toArray, List.map_cons, List.map_nil]); first | done | rfl | (simp only [List.length_drop, List.length_take]; rfl)) ?_; (with_reducible refine (railplanref11_Good.calls k a0_0 _ _ l0_1 _ _ l0_2 _ _ l1 true _ ?side1 ?side2 ?side3 ?side4 ?side5 ?side6 A3.out).mono ?_); (case side1 => repeat (first | exact (qs HR0_1.out HB.out) | (with_reducible refine qv ?_ _) | (with_reducible refine qw ?_ _) | (with_reducible refine qx ?_))); (case side2 => exact HC0_1.out); (case side3 => repeat (first | exact (qs HR0_2.out HB.out) | (with_reducible refine qv ?_ _) | (with_reducible refine qw ?_ _) | (with_reducible refine qx ?_))); (case side4 => exact HC0_2.out); (case side5 => repeat (first | exact (qs HR1.out HB.out) | (with_reducible refine qv ?_ _) | (with_reducible refine qw ?_ _) | (with_reducible refine qx ?_))); (case side6 => exact HC1.out); rintro e w7 ⟨rfl, hb⟩; refine ⟨_, rfl, ?_⟩; have n0_ := qo (qaa (g := gb192) (o := .cells #[.int .i64 a0_0, .slice A0_1 l0_1.length c0_1, .slice A0_2 l0_2.length c0_2] 26 (0, 0)) (by (with_reducible repeat (first | refine ql ?_ _ | refine qm ?_ | refine qk ?_ _)); exact BK192.out) hb); have n1_ := qo (qt (by repeat (first | (with_reducible first | exact HB.out | apply qc | apply qb | apply qd | refine qn ?_ GE192.out) | exact HB.out)) hb); clear BK192; clear HB; have BK192 := n0_; have HB := n1_; clear n0_ n1_; (try clear hb); (try clear hb2); (try clear hk); (try clear hi)))
  go_loopg [6, 7] k (fun kq v6 v7 w' => ∃ (x6_1 : Int) (x7_1 : Int), v6 = .int .i64 x6_1 ∧ v7 = .int .i64 x7_1 ∧ Aside0 (railplanref11_Cost.l0 kq l1 x6_1 x7_1 a0_0 l0_1 l0_2 = some (r1, r2)) ∧ Aside0 (kq ≤ k) ∧ Aside0 (w'.heap[gb192]? = some (.cells #[.int .i64 a0_0, (.slice A0_1 l0_1.length c0_1), (.slice A0_2 l0_2.length c0_2)] 26 (0, 0))) ∧ Aside0 (Below w.heap.size w w'))
  case atStart => exact ⟨(0), (0), (by first | rfl | (simp; done) | (simp [*]; done)), (by first | rfl | (simp; done) | (simp [*]; done)), H', ⟨Nat.le_refl _⟩, ⟨by (with_reducible repeat (first | refine ql ?_ _ | refine qm ?_ | refine qk ?_ _)); exact BK192.out⟩, ⟨by repeat (first | (with_reducible first | exact HB.out | apply qc | apply qb | apply qd | refine qn ?_ GE192.out) | exact HB.out)⟩⟩
  case round =>
   clear H'
   try clear c1
   try clear c2
   try clear p2
   try clear c4
   try clear hcz6_0
   try clear hcz6_1
   try clear hcz6_2
   try clear hfz6_0
   try clear hfz6_1
   try clear hfz6_2
   obtain ⟨x6_1, x7_1, rfl, rfl, HA, HK1, BK192, HB⟩ := hrel
   cases gk with
   | zero => exact absurd HA.out (by simp [railplanref11_Cost.l0])
   | succ k1 =>
    have H := HA.out
    clear HA
    simp only [railplanref11_Cost.l0] at H
    by_cases c8 : x7_1 < (l0_2.length : Int)
    ·rw [if_pos c8] at H
     have c8b0 : decide (x7_1 < (l0_2.length : Int)) = true := qac c8
     clear c8
     by_cases c9 : 0 ≤ x7_1
     ·rw [if_pos c9] at H
      have c9b0 : decide (0 ≤ x7_1) = true := qac c9
      clear c9
      replace H := Option.bind_eq_some_iff.mp H
      obtain ⟨t196, A100, H⟩ := H
      replace H : (railplanref11_Cost.l0 k1 l1 (wrap64 (x6_1 + (wrap64 (((rd_T62 l0_2 x7_1).f5) * t196)))) (wrap64 (x7_1 + 1)) a0_0 l0_1 l0_2) = some (r1, r2) := H
      have A10 := qo A100
      clear A100
      have H' := qo H
      clear H
      have hcz11_0 : wr.cell? ⟨gb192, 0, none⟩ = some (.int .i64 a0_0) := (qe BK192.out 0).trans rfl
      have hcz11_1 : wr.cell? ⟨gb192, 1, none⟩ = some (.slice A0_1 l0_1.length c0_1) := (qe BK192.out 1).trans rfl
      have hcz11_2 : wr.cell? ⟨gb192, 2, none⟩ = some (.slice A0_2 l0_2.length c0_2) := (qe BK192.out 2).trans rfl
      have hfz11_0 := qf BK192.out 0
      have hfz11_1 := qf BK192.out 1
      have hfz11_2 := qf BK192.out 2
      try go_wp2
      have n0_ := qo (qm BK192.out)
      have n1_ := qo (qd HB.out)
      clear BK192
      clear HB
      have BK192 := n0_
      have HB := n1_
      clear n0_ n1_
      have p194 : 0 ≤ (x7_1 : Int) := qq (by first | (with_reducible assumption) | assumption)
      have q194 : x7_1 < (l0_2.length : Int) := qq (by first | (with_reducible assumption) | assumption)
      obtain ⟨ad194, e194, hx194_0, hx194_1, hx194_2, hx194_3, hx194_4, hx194_5⟩ := at_T62 HR0_2.out x7_1 p194 q194
      have hw194_5 := hx194_5
      have hw194_4 := hx194_4
      have hw194_3 := hx194_3
      have hw194_2 := hx194_2
      have hw194_1 := hx194_1
      have hw194_0 := hx194_0
      cases e194
      replace hx194_0 := (HB.out.cell (qa w _ hx194_0)).trans hx194_0
      replace hx194_1 := (HB.out.cell (qa w _ hx194_1)).trans hx194_1
      replace hx194_2 := (HB.out.cell (qa w _ hx194_2)).trans hx194_2
      replace hx194_3 := (HB.out.cell (qa w _ hx194_3)).trans hx194_3
      replace hx194_4 := (HB.out.cell (qa w _ hx194_4)).trans hx194_4
      replace hx194_5 := (HB.out.cell (qa w _ hx194_5)).trans hx194_5
      replace p194 := eq_true p194
      replace q194 := eq_true q194
      have p195 : 0 ≤ (x7_1 : Int) := qq (by first | (with_reducible assumption) | assumption)
      have q195 : x7_1 < (l0_2.length : Int) := qq (by first | (with_reducible assumption) | assumption)
      obtain ⟨ad195, e195, hx195_0, hx195_1, hx195_2, hx195_3, hx195_4, hx195_5⟩ := at_T62 HR0_2.out x7_1 p195 q195
      have hw195_5 := hx195_5
      have hw195_4 := hx195_4
      have hw195_3 := hx195_3
      have hw195_2 := hx195_2
      have hw195_1 := hx195_1
      have hw195_0 := hx195_0
      obtain rfl : ad194 = ad195 := (by injection e195)
      replace hx195_0 := (HB.out.cell (qa w _ hx195_0)).trans hx195_0
      replace hx195_1 := (HB.out.cell (qa w _ hx195_1)).trans hx195_1
      replace hx195_2 := (HB.out.cell (qa w _ hx195_2)).trans hx195_2
      replace hx195_3 := (HB.out.cell (qa w _ hx195_3)).trans hx195_3
      replace hx195_4 := (HB.out.cell (qa w _ hx195_4)).trans hx195_4
      replace hx195_5 := (HB.out.cell (qa w _ hx195_5)).trans hx195_5
      replace p195 := eq_true p195
      replace q195 := eq_true q195
      refine start_ (n := 18) (S := fun w' => w'.cell? ⟨gb192, 0, none⟩ = some (.int .i64 a0_0) ∧ w'.cell? ⟨gb192, 1, none⟩ = some (.slice A0_1 l0_1.length c0_1) ∧ w'.cell? ⟨gb192, 2, none⟩ = some (.slice (some ad194) l0_2.length c0_2) ∧ w'.cell? (ad194.add ((x7_1).toNat * 6)) = some (.int .i64 ((rd_T62 l0_2 x7_1).f0)) ∧ w'.cell? ⟨(ad194.add ((x7_1).toNat * 6)).block, (ad194.add ((x7_1).toNat * 6)).off + 1, none⟩ = some (.int .i64 ((rd_T62 l0_2 x7_1).f1)) ∧ w'.cell? ⟨(ad194.add ((x7_1).toNat * 6)).block, (ad194.add ((x7_1).toNat * 6)).off + 2, none⟩ = some (.int .i64 ((rd_T62 l0_2 x7_1).f2)) ∧ w'.cell? ⟨(ad194.add ((x7_1).toNat * 6)).block, (ad194.add ((x7_1).toNat * 6)).off + 3, none⟩ = some (.int .i64 ((rd_T62 l0_2 x7_1).f3)) ∧ w'.cell? ⟨(ad194.add ((x7_1).toNat * 6)).block, (ad194.add ((x7_1).toNat * 6)).off + 4, none⟩ = some (.int .i64 ((rd_T62 l0_2 x7_1).f4)) ∧ w'.cell? ⟨(ad194.add ((x7_1).toNat * 6)).block, (ad194.add ((x7_1).toNat * 6)).off + 5, none⟩ = some (.int .i64 ((rd_T62 l0_2 x7_1).f5)) ∧ w'.cell? (ad194.add ((x7_1).toNat * 6)) = some (.int .i64 ((rd_T62 l0_2 x7_1).f0)) ∧ w'.cell? ⟨(ad194.add ((x7_1).toNat * 6)).block, (ad194.add ((x7_1).toNat * 6)).off + 1, none⟩ = some (.int .i64 ((rd_T62 l0_2 x7_1).f1)) ∧ w'.cell? ⟨(ad194.add ((x7_1).toNat * 6)).block, (ad194.add ((x7_1).toNat * 6)).off + 2, none⟩ = some (.int .i64 ((rd_T62 l0_2 x7_1).f2)) ∧ w'.cell? ⟨(ad194.add ((x7_1).toNat * 6)).block, (ad194.add ((x7_1).toNat * 6)).off + 3, none⟩ = some (.int .i64 ((rd_T62 l0_2 x7_1).f3)) ∧ w'.cell? ⟨(ad194.add ((x7_1).toNat * 6)).block, (ad194.add ((x7_1).toNat * 6)).off + 4, none⟩ = some (.int .i64 ((rd_T62 l0_2 x7_1).f4)) ∧ w'.cell? ⟨(ad194.add ((x7_1).toNat * 6)).block, (ad194.add ((x7_1).toNat * 6)).off + 5, none⟩ = some (.int .i64 ((rd_T62 l0_2 x7_1).f5))) (ds := []) #[false, false, false, false, false, false, false, false, false, false, false, false, false, false, false, false, false, false] (by kernel_rfl) rfl rfl ⟨(qe BK192.out 0).trans rfl, (qe BK192.out 1).trans rfl, (qe BK192.out 2).trans rfl, ((HB.out.cell (qa w _ hw194_0)).trans hw194_0), ((HB.out.cell (qa w _ hw194_1)).trans hw194_1), ((HB.out.cell (qa w _ hw194_2)).trans hw194_2), ((HB.out.cell (qa w _ hw194_3)).trans hw194_3), ((HB.out.cell (qa w _ hw194_4)).trans hw194_4), ((HB.out.cell (qa w _ hw194_5)).trans hw194_5), ((HB.out.cell (qa w _ hw195_0)).trans hw195_0), ((HB.out.cell (qa w _ hw195_1)).trans hw195_1), ((HB.out.cell (qa w _ hw195_2)).trans hw195_2), ((HB.out.cell (qa w _ hw195_3)).trans hw195_3), ((HB.out.cell (qa w _ hw195_4)).trans hw195_4), ((HB.out.cell (qa w _ hw195_5)).trans hw195_5)⟩ (fun hHeld => ?_); refine with_tabW railplanref11_Cost.tab7 railplanref11_Cost.bits7 (fun HT_ HW_ => ?_)
      generalize wr.drew = w12 at BK192 HB hx194_0 hx194_1 hx194_2 hx194_3 hx194_4 hx194_5 hx195_0 hx195_1 hx195_2 hx195_3 hx195_4 hx195_5 hHeld ⊢
      refine pure_ (i := 0) (N := some 19) (v := ?_) (a' := ?_) #[true, false, false, false, false, false, false, false, false, false, false, false, false, false, false, false, false, false] rfl rfl (any_of HT_.out (by kernel_rfl)) (fun _ _ _ h => h) (Or.inl ⟨by rfl, ?_⟩) ?_ ?_
      rotate_left
      ·intro w'
       go_simp
       with_reducible rfl
      rotate_left
      ·simp only [Act.put, List.setIfInBounds_toArray, List.set_cons_zero, List.set_cons_succ, i64_w, i32_w]
       rfl
      refine pure_ (i := 1) (N := some 20) (v := ?_) (a' := ?_) #[true, true, false, false, false, false, false, false, false, false, false, false, false, false, false, false, false, false] rfl rfl (any_of HT_.out (by kernel_rfl)) (fun _ _ _ h => h) (Or.inl ⟨by rfl, ?_⟩) ?_ ?_
      rotate_left
      ·intro w'
       go_simp
       with_reducible rfl
      rotate_left
      ·simp only [Act.put, List.setIfInBounds_toArray, List.set_cons_zero, List.set_cons_succ, i64_w, i32_w]
       rfl
      refine pure_ (i := 3) (N := some 22) (v := ?_) (a' := ?_) #[true, true, false, true, false, false, false, false, false, false, false, false, false, false, false, false, false, false] rfl rfl (any_of HT_.out (by kernel_rfl)) (fun _ _ _ h => h) (Or.inl ⟨by rfl, ?_⟩) ?_ ?_
      rotate_left
      ·intro w'
       go_simp
       with_reducible rfl
      rotate_left
      ·simp only [Act.put, List.setIfInBounds_toArray, List.set_cons_zero, List.set_cons_succ, i64_w, i32_w]
       rfl
      refine pure_ (i := 8) (N := some 27) (v := ?_) (a' := ?_) #[true, true, false, true, false, false, false, false, true, false, false, false, false, false, false, false, false, false] rfl rfl (any_of HT_.out (by kernel_rfl)) (fun _ _ _ h => h) (Or.inl ⟨by rfl, ?_⟩) ?_ ?_
      rotate_left
      ·intro w'
       go_simp
       with_reducible rfl
      rotate_left
      ·simp only [Act.put, List.setIfInBounds_toArray, List.set_cons_zero, List.set_cons_succ, i64_w, i32_w]
       rfl
      refine pure_ (i := 9) (N := some 28) (v := ?_) (a' := ?_) #[true, true, false, true, false, false, false, false, true, true, false, false, false, false, false, false, false, false] rfl rfl (any_of HT_.out (by kernel_rfl)) (fun _ _ _ h => h) (Or.inl ⟨by rfl, ?_⟩) ?_ ?_
      rotate_left
      ·intro w'
       go_simp
       with_reducible rfl
      rotate_left
      ·simp only [Act.put, List.setIfInBounds_toArray, List.set_cons_zero, List.set_cons_succ, i64_w, i32_w]
       rfl
      refine pure_ (i := 11) (N := some 30) (v := ?_) (a' := ?_) #[true, true, false, true, false, false, false, false, true, true, false, true, false, false, false, false, false, false] rfl rfl (any_of HT_.out (by kernel_rfl)) (fun _ _ _ h => h) (Or.inl ⟨by rfl, ?_⟩) ?_ ?_
      rotate_left
      ·intro w'
       go_simp
       with_reducible rfl
      rotate_left
      ·simp only [Act.put, List.setIfInBounds_toArray, List.set_cons_zero, List.set_cons_succ, i64_w, i32_w]
       rfl
      refine take_ (i := 2) (N := some 21) (v := ?_) (a' := ?_) #[true, true, true, true, false, false, false, false, true, true, false, true, false, false, false, false, false, false] rfl rfl (take_ofW HT_.out HW_.out (by kernel_rfl)) (fun _ _ _ h => h) (Or.inl ⟨by rfl, ?_⟩) hHeld ?_ ?_
      rotate_left
      ·rintro w' ⟨s0, s1, s2, s3, s4, s5, s6, s7, s8, s9, s10, s11, s12, s13, s14⟩
       go_simp
       with_reducible rfl
      rotate_left
      ·simp only [Act.put, List.setIfInBounds_toArray, List.set_cons_zero, List.set_cons_succ, i64_w, i32_w]
       rfl
      refine pure_ (i := 4) (N := some 23) (v := ?_) (a' := ?_) #[true, true, true, true, true, false, false, false, true, true, false, true, false, false, false, false, false, false] rfl rfl (any_of HT_.out (by kernel_rfl)) (fun _ _ _ h => h) (Or.inl ⟨by rfl, ?_⟩) ?_ ?_
      rotate_left
      ·intro w'
       go_simp
       with_reducible rfl
      rotate_left
      ·simp only [Act.put, List.setIfInBounds_toArray, List.set_cons_zero, List.set_cons_succ, i64_w, i32_w]
       rfl
      refine pure_ (i := 5) (N := some 24) (v := ?_) (a' := ?_) #[true, true, true, true, true, true, false, false, true, true, false, true, false, false, false, false, false, false] rfl rfl (any_of HT_.out (by kernel_rfl)) (fun _ _ _ h => h) (Or.inl ⟨by rfl, ?_⟩) ?_ ?_
      rotate_left
      ·intro w'
       go_simp
       with_reducible rfl
      rotate_left
      ·simp only [Act.put, List.setIfInBounds_toArray, List.set_cons_zero, List.set_cons_succ, i64_w, i32_w]
       rfl
      refine take_ (i := 6) (N := some 25) (v := ?_) (a' := ?_) #[true, true, true, true, true, true, true, false, true, true, false, true, false, false, false, false, false, false] rfl rfl (take_ofW HT_.out HW_.out (by kernel_rfl)) (fun _ _ _ h => h) (Or.inl ⟨by rfl, ?_⟩) hHeld ?_ ?_
      rotate_left
      ·rintro w' ⟨s0, s1, s2, s3, s4, s5, s6, s7, s8, s9, s10, s11, s12, s13, s14⟩
       go_simp
       with_reducible rfl
      rotate_left
      ·simp only [Act.put, List.setIfInBounds_toArray, List.set_cons_zero, List.set_cons_succ, i64_w, i32_w]
       rfl
      refine take_ (i := 7) (N := some 26) (v := ?_) (a' := ?_) #[true, true, true, true, true, true, true, true, true, true, false, true, false, false, false, false, false, false] rfl rfl (take_ofW HT_.out HW_.out (by kernel_rfl)) (fun _ _ _ h => h) (Or.inl ⟨by rfl, ?_⟩) hHeld ?_ ?_
      rotate_left
      ·rintro w' ⟨s0, s1, s2, s3, s4, s5, s6, s7, s8, s9, s10, s11, s12, s13, s14⟩
       go_simp
       with_reducible rfl
      rotate_left
      ·simp only [Act.put, List.setIfInBounds_toArray, List.set_cons_zero, List.set_cons_succ, i64_w, i32_w]
       rfl
      refine take_ (i := 10) (N := some 29) (v := ?_) (a' := ?_) #[true, true, true, true, true, true, true, true, true, true, true, true, false, false, false, false, false, false] rfl rfl (take_ofW HT_.out HW_.out (by kernel_rfl)) (fun _ _ _ h => h) (Or.inl ⟨by rfl, ?_⟩) hHeld ?_ ?_
      rotate_left
      ·rintro w' ⟨s0, s1, s2, s3, s4, s5, s6, s7, s8, s9, s10, s11, s12, s13, s14⟩
       go_simp
       with_reducible rfl
      rotate_left
      ·simp only [Act.put, List.setIfInBounds_toArray, List.set_cons_zero, List.set_cons_succ, i64_w, i32_w]
       rfl
      refine pure_ (i := 12) (N := some 31) (v := ?_) (a' := ?_) #[true, true, true, true, true, true, true, true, true, true, true, true, true, false, false, false, false, false] rfl rfl (any_of HT_.out (by kernel_rfl)) (fun _ _ _ h => h) (Or.inl ⟨by rfl, ?_⟩) ?_ ?_
      rotate_left
      ·intro w'
       go_simp
       with_reducible rfl
      rotate_left
      ·simp only [Act.put, List.setIfInBounds_toArray, List.set_cons_zero, List.set_cons_succ, i64_w, i32_w]
       rfl
      refine take_ (i := 13) (N := some 32) (v := ?_) (a' := ?_) #[true, true, true, true, true, true, true, true, true, true, true, true, true, true, false, false, false, false] rfl rfl (take_ofW HT_.out HW_.out (by kernel_rfl)) (fun _ _ _ h => h) (Or.inl ⟨by rfl, ?_⟩) hHeld ?_ ?_
      rotate_left
      ·rintro w' ⟨s0, s1, s2, s3, s4, s5, s6, s7, s8, s9, s10, s11, s12, s13, s14⟩
       go_simp
       with_reducible rfl
      rotate_left
      ·simp only [Act.put, List.setIfInBounds_toArray, List.set_cons_zero, List.set_cons_succ, i64_w, i32_w]
       rfl
      refine one_ (i := 14) (N := some 33) #[true, true, true, true, true, true, true, true, true, true, true, true, true, true, true, false, false, false] rfl rfl (one_of HT_.out (by kernel_rfl)) (by decide) (fun K hK => ?_)
      refine goes_ Try.func44 (by kernel_rfl) rfl #[.agg #[.int .i64 a0_0, .slice A0_1 l0_1.length c0_1, .slice (some ad194) l0_2.length c0_2], .slice A1 l1.length c1, .agg #[.int .i64 ((rd_T62 l0_2 x7_1).f0), .int .i64 ((rd_T62 l0_2 x7_1).f1), .int .i64 ((rd_T62 l0_2 x7_1).f2), .int .i64 ((rd_T62 l0_2 x7_1).f3), .int .i64 ((rd_T62 l0_2 x7_1).f4), .int .i64 ((rd_T62 l0_2 x7_1).f5)]] (by rfl) rfl rfl (by (try simp only [List.map_toArray, List.map_cons, List.map_nil]); first | done | rfl | (simp only [List.length_drop, List.length_take]; rfl)) ?_
      with_reducible refine (railplanref11_Lasts.calls a0_0 _ _ l0_1 _ _ l0_2 _ _ l1 ((rd_T62 l0_2 x7_1).f0) ((rd_T62 l0_2 x7_1).f1) ((rd_T62 l0_2 x7_1).f2) ((rd_T62 l0_2 x7_1).f3) ((rd_T62 l0_2 x7_1).f4) ((rd_T62 l0_2 x7_1).f5) t196 _ ?side1 ?side2 ?side3 ?side4 ?side5 ?side6 A10.out).mono ?_
      (case side1 => repeat (first | exact (qs HR0_1.out HB.out) | (with_reducible refine qv ?_ _) | (with_reducible refine qw ?_ _) | (with_reducible refine qx ?_)))
      (case side2 => exact HC0_1.out)
      (case side3 => repeat (first | exact (qs HR0_2.out HB.out) | (with_reducible refine qv ?_ _) | (with_reducible refine qw ?_ _) | (with_reducible refine qx ?_)))
      (case side4 => exact HC0_2.out)
      (case side5 => repeat (first | exact (qs HR1.out HB.out) | (with_reducible refine qv ?_ _) | (with_reducible refine qw ?_ _) | (with_reducible refine qx ?_)))
      (case side6 => exact HC1.out)
      rintro e w13 ⟨rfl, hb⟩
      refine ⟨_, rfl, ?_⟩
      have n0_ := qo (qaa (g := gb192) (o := .cells #[.int .i64 a0_0, .slice A0_1 l0_1.length c0_1, .slice (some ad194) l0_2.length c0_2] 26 (0, 0)) (by (with_reducible repeat (first | refine ql ?_ _ | refine qm ?_ | refine qk ?_ _)); exact BK192.out) hb)
      have n1_ := qo (qt (by repeat (first | (with_reducible first | exact HB.out | apply qc | apply qb | apply qd | refine qn ?_ GE192.out) | exact HB.out)) hb)
      clear BK192
      clear HB
      have BK192 := n0_
      have HB := n1_
      clear n0_ n1_
      (try clear hb)
      (try clear hb2)
      (try clear hk)
      (try clear hi)
      refine hK.out _ _ ⟨(qe BK192.out 0).trans rfl, (qe BK192.out 1).trans rfl, (qe BK192.out 2).trans rfl, ((HB.out.cell (qa w _ hw194_0)).trans hw194_0), ((HB.out.cell (qa w _ hw194_1)).trans hw194_1), ((HB.out.cell (qa w _ hw194_2)).trans hw194_2), ((HB.out.cell (qa w _ hw194_3)).trans hw194_3), ((HB.out.cell (qa w _ hw194_4)).trans hw194_4), ((HB.out.cell (qa w _ hw194_5)).trans hw194_5), ((HB.out.cell (qa w _ hw195_0)).trans hw195_0), ((HB.out.cell (qa w _ hw195_1)).trans hw195_1), ((HB.out.cell (qa w _ hw195_2)).trans hw195_2), ((HB.out.cell (qa w _ hw195_3)).trans hw195_3), ((HB.out.cell (qa w _ hw195_4)).trans hw195_4), ((HB.out.cell (qa w _ hw195_5)).trans hw195_5)⟩ (fun hHeld => ?_)
      clear hK K
      refine norm_ (a' := ?_) ?_ ?_
      rotate_left
      ·show Act.put _ (some 33) _ = _
       simp only [Act.put, List.setIfInBounds_toArray, List.set_cons_zero, List.set_cons_succ, i64_w, i32_w]
       rfl
      refine pure_ (i := 15) (N := some 34) (v := ?_) (a' := ?_) #[true, true, true, true, true, true, true, true, true, true, true, true, true, true, true, true, false, false] rfl rfl (any_of HT_.out (by kernel_rfl)) (fun _ _ _ h => h) (Or.inl ⟨by rfl, ?_⟩) ?_ ?_
      rotate_left
      ·intro w'
       go_simp
       with_reducible rfl
      rotate_left
      ·simp only [Act.put, List.setIfInBounds_toArray, List.set_cons_zero, List.set_cons_succ, i64_w, i32_w]
       rfl
      refine pure_ (i := 16) (N := some 35) (v := ?_) (a' := ?_) #[true, true, true, true, true, true, true, true, true, true, true, true, true, true, true, true, true, false] rfl rfl (any_of HT_.out (by kernel_rfl)) (fun _ _ _ h => h) (Or.inl ⟨by rfl, ?_⟩) ?_ ?_
      rotate_left
      ·intro w'
       go_simp
       with_reducible rfl
      rotate_left
      ·simp only [Act.put, List.setIfInBounds_toArray, List.set_cons_zero, List.set_cons_succ, i64_w, i32_w]
       rfl
      refine pure_ (i := 17) (N := some 6) (v := ?_) (a' := ?_) #[true, true, true, true, true, true, true, true, true, true, true, true, true, true, true, true, true, true] rfl rfl (any_of HT_.out (by kernel_rfl)) (fun _ _ _ h => h) (Or.inl ⟨by rfl, ?_⟩) ?_ ?_
      rotate_left
      ·intro w'
       go_simp
       with_reducible rfl
      rotate_left
      ·simp only [Act.put, List.setIfInBounds_toArray, List.set_cons_zero, List.set_cons_succ, i64_w, i32_w]
       rfl
      refine done_ (done_of HT_.out (by kernel_rfl)) ?_
      try go_wp2
      go_roundg k1
      case measure => have := HK1.out; omega
      case rel => exact ⟨(wrap64 (x6_1 + (wrap64 (((rd_T62 l0_2 x7_1).f5) * t196)))), (wrap64 (x7_1 + 1)), (by first | rfl | (simp; done) | (simp [*]; done)), (by first | rfl | (simp; done) | (simp [*]; done)), H', ⟨by have := HK1.out; omega⟩, ⟨by (with_reducible repeat (first | refine ql ?_ _ | refine qm ?_ | refine qk ?_ _)); exact BK192.out⟩, ⟨by repeat (first | (with_reducible first | exact HB.out | apply qc | apply qb | apply qd | refine qn ?_ GE192.out) | exact HB.out)⟩⟩
     ·rw [if_neg c9] at H
      exact absurd H (by simp)
    ·rw [if_neg c8] at H
     have c8b0 : decide (x7_1 < (l0_2.length : Int)) = false := qad c8
     clear c8
     simp only [Option.some.injEq, Prod.mk.injEq] at H
     obtain ⟨rfl, rfl⟩ := H
     have hcz14_0 : wr.cell? ⟨gb192, 0, none⟩ = some (.int .i64 a0_0) := (qe BK192.out 0).trans rfl
     have hcz14_1 : wr.cell? ⟨gb192, 1, none⟩ = some (.slice A0_1 l0_1.length c0_1) := (qe BK192.out 1).trans rfl
     have hcz14_2 : wr.cell? ⟨gb192, 2, none⟩ = some (.slice A0_2 l0_2.length c0_2) := (qe BK192.out 2).trans rfl
     have hfz14_0 := qf BK192.out 0
     have hfz14_1 := qf BK192.out 1
     have hfz14_2 := qf BK192.out 2
     go_wp2
     go_ret2
     exact ⟨by first | rfl | (simp [errW_none, errW_some] <;> rfl) | (simp [*, errW_none, errW_some] <;> rfl), by repeat (first | (with_reducible first | exact HB.out | apply qc | apply qb | apply qd | refine qn ?_ GE192.out) | exact HB.out)⟩
 ·replace c4 := Bool.eq_false_iff.mpr c4
  subst c4
  have H1 : (some (0, 1)) = some (r1, r2) := by rw [if_neg (show ¬ (false = true) by decide)] at H; exact H
  clear H
  have H := H1
  clear H1
  simp only [Option.some.injEq, Prod.mk.injEq] at H
  obtain ⟨rfl, rfl⟩ := H
  go_enter Try.func26, Try.ntmps26
  go_wp2_with (first | ((with_reducible refine gate_dst (N := 2) rfl ?_); refine box_event ?hg (N := 2) ?hd (cs := #[.int .i64 a0_0, .slice A0_1 l0_1.length c0_1, .slice A0_2 l0_2.length c0_2]) (t := 26) ?hr ?_; (case hd => rfl); (case hg => rfl); (case hr => first | (go_simp; done) | (go_simp; rfl)); intro gb192 hg w15 hbox hb; have n0_ := qo (qt (by repeat (first | (with_reducible first | exact HB.out | apply qc | apply qb | apply qd) | exact HB.out)) hb); have n1_ := qo (hbox); have n2_ := qo ((by rw [hg]; exact (qu (by repeat (first | (with_reducible first | exact HB.out | apply qc | apply qb | apply qd) | exact HB.out))) : w.heap.size ≤ gb192)); have n3_ := qo ((by rw [hg]; exact (qu (by repeat (first | (with_reducible first | exact HB.out | apply qc | apply qb | apply qd) | exact HB.out))) : w.heap.size ≤ gb192)); clear HB; have HB := n0_; have BK192 := n1_; have GW192 := n2_; have GE192 := n3_; clear n0_ n1_ n2_ n3_; clear hb hbox hg; have hcz16_0 : w15.cell? ⟨gb192, 0, none⟩ = some (.int .i64 a0_0) := (qe BK192.out 0).trans rfl; have hcz16_1 : w15.cell? ⟨gb192, 1, none⟩ = some (.slice A0_1 l0_1.length c0_1) := (qe BK192.out 1).trans rfl; have hcz16_2 : w15.cell? ⟨gb192, 2, none⟩ = some (.slice A0_2 l0_2.length c0_2) := (qe BK192.out 2).trans rfl; have hfz16_0 := qf BK192.out 0; have hfz16_1 := qf BK192.out 1; have hfz16_2 := qf BK192.out 2) | ((with_reducible refine gate_callee (f := 41) rfl ?_); refine goesL_ (some 10) rfl rfl Try.func41 (by kernel_rfl) rfl #[.agg #[.int .i64 a0_0, .slice A0_1 l0_1.length c0_1, .slice A0_2 l0_2.length c0_2], .slice A1 l1.length c1] rfl (by (try simp only [List.map_toArray, List.map_cons, List.map_nil]); first | done | rfl | (simp only [List.length_drop, List.length_take]; rfl)) ?_; (with_reducible refine (railplanref11_Good.calls k a0_0 _ _ l0_1 _ _ l0_2 _ _ l1 false _ ?side1 ?side2 ?side3 ?side4 ?side5 ?side6 A3.out).mono ?_); (case side1 => repeat (first | exact (qs HR0_1.out HB.out) | (with_reducible refine qv ?_ _) | (with_reducible refine qw ?_ _) | (with_reducible refine qx ?_))); (case side2 => exact HC0_1.out); (case side3 => repeat (first | exact (qs HR0_2.out HB.out) | (with_reducible refine qv ?_ _) | (with_reducible refine qw ?_ _) | (with_reducible refine qx ?_))); (case side4 => exact HC0_2.out); (case side5 => repeat (first | exact (qs HR1.out HB.out) | (with_reducible refine qv ?_ _) | (with_reducible refine qw ?_ _) | (with_reducible refine qx ?_))); (case side6 => exact HC1.out); rintro e w17 ⟨rfl, hb⟩; refine ⟨_, rfl, ?_⟩; have n0_ := qo (qaa (g := gb192) (o := .cells #[.int .i64 a0_0, .slice A0_1 l0_1.length c0_1, .slice A0_2 l0_2.length c0_2] 26 (0, 0)) (by (with_reducible repeat (first | refine ql ?_ _ | refine qm ?_ | refine qk ?_ _)); exact BK192.out) hb); have n1_ := qo (qt (by repeat (first | (with_reducible first | exact HB.out | apply qc | apply qb | apply qd | refine qn ?_ GE192.out) | exact HB.out)) hb); clear BK192; clear HB; have BK192 := n0_; have HB := n1_; clear n0_ n1_; (try clear hb); (try clear hb2); (try clear hk); (try clear hi)))
  go_ret2
  exact ⟨by first | rfl | (simp [errW_none, errW_some] <;> rfl) | (simp [*, errW_none, errW_some] <;> rfl), by repeat (first | (with_reducible first | exact HB.out | apply qc | apply qb | apply qd | refine qn ?_ GE192.out) | exact HB.out)⟩

end Go.Proofs.Ytpioelilfhkfdaa.XAll
