-- This session's own text, written by wip/tools/xall.py after the form of the kit's print.
import Derived.Test.YtpioelilfhkfdaaXAllx0
import Derived.Test.YtpioelilfhkfdaaXAllx1
namespace Go.Proofs.Ytpioelilfhkfdaa.XAll
open Go.RowKit Go.Proofs.YtpioelilfhkfdaaW.PrintWords Go.Proofs.YtpioelilfhkfdaaW.PrintLast Go.Proofs.YtpioelilfhkfdaaW.PrintMore
attribute [local go_sem] max2_int min2_int max_two min_two max_three min_three max_four min_four   -- for this text's walks alone
set_option linter.unusedVariables false
set_option linter.unusedSimpArgs false

/-! ### railplankeep_Network: function 12 -/
mutual
def railplankeep_Network.l0 : Nat → Int → List Int → Int → Int → List (S60) → Option (Int × (List (S60)) × (List (S62)))
 | 0, _, _, _, _, _ => none
 | k + 1, x5, x108000, x108001, x111000, x111001 => if x5 > 0 then ((railplankeep_Source_Next.f x108000 x108001 2).bind fun bt113 => ((railplankeep_Source_Next.f x108000 bt113.2 3).bind fun bt115 => ((railplankeep_Source_Next.f x108000 bt115.2 3).bind fun bt117 => (if x111001.length < 5864062014805 then (railplankeep_Network.l0 k (wrap64 (x5 - 1)) x108000 bt117.2 x111000 (x111001 ++ [(⟨wrap64 (1 + bt113.1), bt115.1, bt117.1⟩ : S60)])) else (none))))) else ((railplankeep_Source_Next.f x108000 x108001 9).bind fun bt122 => (railplankeep_Network.l1 k (x111001.length : Int) bt122.1 x108000 bt122.2 x111000 x111001 ([] : List (S62))))
def railplankeep_Network.l1 : Nat → Int → Int → List Int → Int → Int → List (S60) → List (S62) → Option (Int × (List (S60)) × (List (S62)))
 | 0, _, _, _, _, _, _, _ => none
 | k + 1, x6, x7, x108000, x108001, x111000, x111001, x111002 => if x7 > 0 then (railplankeep_Network.j2 k x6 x7 (decide (x6 > 1)) x108000 x108001 x111000 x111001 x111002) else (railplankeep_Network.j2 k x6 x7 false x108000 x108001 x111000 x111001 x111002)
def railplankeep_Network.j2 : Nat → Int → Int → Bool → List Int → Int → Int → List (S60) → List (S62) → Option (Int × (List (S60)) × (List (S62)))
 | 0, _, _, _, _, _, _, _, _ => none
 | k + 1, x6, x7, x45, x108000, x108001, x111000, x111001, x111002 => if x45 = true then ((railplankeep_Source_Next.f x108000 x108001 6).bind fun bt124 => ((railplankeep_Source_Next.f x108000 bt124.2 x6).bind fun bt126 => ((railplankeep_Source_Next.f x108000 bt126.2 5).bind fun bt128 => ((railplankeep_Source_Next.f x108000 bt128.2 (wrap64 (x6 - 1))).bind fun bt131 => (if x6 = 0 then (none) else ((railplankeep_Source_Next.f x108000 bt131.2 (wrap64 (3 * x111000))).bind fun bt133 => ((railplankeep_Source_Next.f x108000 bt133.2 x111000).bind fun bt135 => (if x111002.length < 2932031007402 then (railplankeep_Network.l1 k x6 (wrap64 (x7 - 1)) x108000 bt135.2 x111000 x111001 (x111002 ++ [(⟨wrap64 (1 + bt124.1), bt126.1, Int.tmod (wrap64 ((wrap64 (bt126.1 + 1)) + bt131.1)) x6, wrap64 (bt133.1 - x111000), wrap64 ((wrap64 (bt133.1 - x111000)) + bt135.1), bt128.1⟩ : S62)])) else (none))))))))) else (some (x111000, x111001, x111002))
end
def railplankeep_Network.f (k : Nat) (l0 : List Int) : Option (Int × (List (S60)) × (List (S62))) := (railplankeep_From.f l0).bind fun bt105 => ((railplankeep_Source_Next.f bt105.1 bt105.2 8).bind fun bt108 => ((railplankeep_Source_Next.f bt105.1 bt108.2 5).bind fun bt111 => (railplankeep_Network.l0 k (wrap64 (1 + bt111.1)) bt105.1 bt111.2 (wrap64 (2 + bt108.1)) ([] : List (S60)))))
theorem railplankeep_Network.mono_l : ∀ k, (∀ y0 y1 y2 y3 y4, LeO (railplankeep_Network.l0 k y0 y1 y2 y3 y4) (railplankeep_Network.l0 (k + 1) y0 y1 y2 y3 y4)) ∧ (∀ y0 y1 y2 y3 y4 y5 y6, LeO (railplankeep_Network.l1 k y0 y1 y2 y3 y4 y5 y6) (railplankeep_Network.l1 (k + 1) y0 y1 y2 y3 y4 y5 y6)) ∧ (∀ y0 y1 y2 y3 y4 y5 y6 y7, LeO (railplankeep_Network.j2 k y0 y1 y2 y3 y4 y5 y6 y7) (railplankeep_Network.j2 (k + 1) y0 y1 y2 y3 y4 y5 y6 y7))
 | 0 => ⟨fun _ _ _ _ _ r h => by simp [railplankeep_Network.l0] at h, fun _ _ _ _ _ _ _ r h => by simp [railplankeep_Network.l1] at h, fun _ _ _ _ _ _ _ _ r h => by simp [railplankeep_Network.j2] at h⟩
 | k + 1 => by
  obtain ⟨ih0, ih1, ih2⟩ := railplankeep_Network.mono_l k
  refine ⟨?_, ?_, ?_⟩
  ·intro y0 y1 y2 y3 y4
   unfold railplankeep_Network.l0
   repeat' first
   | (with_reducible exact ih0 _ _ _ _ _)
   | (with_reducible exact ih1 _ _ _ _ _ _ _)
   | (with_reducible exact ih2 _ _ _ _ _ _ _ _)
   | (with_reducible exact LeO.refl _)
   | (with_reducible exact LeO.none _)
   | (with_reducible refine LeO.ite ?_ ?_)
   | (with_reducible refine LeO.bind ?_ (fun _ => ?_))
   | exact ih0 _ _ _ _ _
   | exact ih1 _ _ _ _ _ _ _
   | exact ih2 _ _ _ _ _ _ _ _
   | exact LeO.none _
   | refine LeO.ite ?_ ?_
   | refine LeO.bind ?_ (fun _ => ?_)
  ·intro y0 y1 y2 y3 y4 y5 y6
   unfold railplankeep_Network.l1
   repeat' first
   | (with_reducible exact ih0 _ _ _ _ _)
   | (with_reducible exact ih1 _ _ _ _ _ _ _)
   | (with_reducible exact ih2 _ _ _ _ _ _ _ _)
   | (with_reducible exact LeO.refl _)
   | (with_reducible exact LeO.none _)
   | (with_reducible refine LeO.ite ?_ ?_)
   | (with_reducible refine LeO.bind ?_ (fun _ => ?_))
   | exact ih0 _ _ _ _ _
   | exact ih1 _ _ _ _ _ _ _
   | exact ih2 _ _ _ _ _ _ _ _
   | exact LeO.none _
   | refine LeO.ite ?_ ?_
   | refine LeO.bind ?_ (fun _ => ?_)
  ·intro y0 y1 y2 y3 y4 y5 y6 y7
   unfold railplankeep_Network.j2
   repeat' first
   | (with_reducible exact ih0 _ _ _ _ _)
   | (with_reducible exact ih1 _ _ _ _ _ _ _)
   | (with_reducible exact ih2 _ _ _ _ _ _ _ _)
   | (with_reducible exact LeO.refl _)
   | (with_reducible exact LeO.none _)
   | (with_reducible refine LeO.ite ?_ ?_)
   | (with_reducible refine LeO.bind ?_ (fun _ => ?_))
   | exact ih0 _ _ _ _ _
   | exact ih1 _ _ _ _ _ _ _
   | exact ih2 _ _ _ _ _ _ _ _
   | exact LeO.none _
   | refine LeO.ite ?_ ?_
   | refine LeO.bind ?_ (fun _ => ?_)
theorem railplankeep_Network.mono : ∀ a0 k, LeO (railplankeep_Network.f k a0) (railplankeep_Network.f (k + 1) a0) := by
 intro a0 k
 obtain ⟨ih0, ih1, ih2⟩ := railplankeep_Network.mono_l k
 unfold railplankeep_Network.f
 repeat' first
   | (with_reducible exact ih0 _ _ _ _ _)
   | (with_reducible exact ih1 _ _ _ _ _ _ _)
   | (with_reducible exact ih2 _ _ _ _ _ _ _ _)
   | (with_reducible exact LeO.refl _)
   | (with_reducible exact LeO.none _)
   | (with_reducible refine LeO.ite ?_ ?_)
   | (with_reducible refine LeO.bind ?_ (fun _ => ?_))
   | exact ih0 _ _ _ _ _
   | exact ih1 _ _ _ _ _ _ _
   | exact ih2 _ _ _ _ _ _ _ _
   | exact LeO.none _
   | refine LeO.ite ?_ ?_
   | refine LeO.bind ?_ (fun _ => ?_)
def railplankeep_Network.T6 : Bool × List (List Nat × List Nat) := (true, [([], []), ([0], [0]), ([], []), ([2], [2]), ([3], [3]), ([], []), ([5, 3], [5]), ([], []), ([7, 6], [7]), ([4, 6, 8], [4, 6, 8]), ([9], [9]), ([1, 10, 8], [1, 10]), ([0, 1, 2, 3, 4, 5, 6, 7, 8, 9, 10, 11], []), ([12, 11, 11, 0, 1, 2, 3, 4, 5, 6, 7, 8, 9, 10, 11], [11, 12])])
def railplankeep_Network.B6 : List Nat := [0, 1, 0, 4, 12, 0, 44, 0, 236, 508, 1020, 2047, 4095, 8191]
theorem railplankeep_Network.tab6 : rtab .any (opsOf Try.f12 6) = railplankeep_Network.T6 := by kernel_rfl
theorem railplankeep_Network.bits6 : waitsOk railplankeep_Network.T6.2 railplankeep_Network.B6 = true := by kernel_rfl
def railplankeep_Network.T12 : Bool × List (List Nat × List Nat) := (true, [([], []), ([0], [0]), ([1], [1]), ([], []), ([], []), ([4], [4]), ([3, 5], [3, 5]), ([2, 6], [2, 6]), ([], []), ([7, 8], [7, 8]), ([0, 1, 2, 3, 4, 5, 6, 7, 8, 9], []), ([10, 9, 6, 0, 1, 2, 3, 4, 5, 6, 7, 8, 9], [9, 10])])
def railplankeep_Network.B12 : List Nat := [0, 1, 3, 0, 0, 16, 56, 127, 0, 511, 1023, 2047]
theorem railplankeep_Network.tab12 : rtab .any (opsOf Try.f12 12) = railplankeep_Network.T12 := by kernel_rfl
theorem railplankeep_Network.bits12 : waitsOk railplankeep_Network.T12.2 railplankeep_Network.B12 = true := by kernel_rfl
def railplankeep_Network.T13 : Bool × List (List Nat × List Nat) := (true, [([], []), ([], []), ([1], [1]), ([2], [2]), ([0, 3], [0, 3]), ([], []), ([5], [5]), ([4, 6], [4, 6]), ([0, 1, 2, 3, 4, 5, 6, 7], []), ([8, 7, 4, 0, 1, 2, 3, 4, 5, 6, 7], [7, 8])])
def railplankeep_Network.B13 : List Nat := [0, 0, 2, 6, 15, 0, 32, 127, 255, 511]
theorem railplankeep_Network.tab13 : rtab .any (opsOf Try.f12 13) = railplankeep_Network.T13 := by kernel_rfl
theorem railplankeep_Network.bits13 : waitsOk railplankeep_Network.T13.2 railplankeep_Network.B13 = true := by kernel_rfl
def railplankeep_Network.T14 : Bool × List (List Nat × List Nat) := (true, [([], []), ([0], [0]), ([], []), ([], []), ([3], [3]), ([2, 4], [2, 4]), ([1, 5], [1, 5]), ([0, 1, 2, 3, 4, 5, 6], []), ([7, 6, 5, 0, 1, 2, 3, 4, 5, 6], [6, 7])])
def railplankeep_Network.B14 : List Nat := [0, 1, 0, 0, 8, 28, 63, 127, 255]
theorem railplankeep_Network.tab14 : rtab .any (opsOf Try.f12 14) = railplankeep_Network.T14 := by kernel_rfl
theorem railplankeep_Network.bits14 : waitsOk railplankeep_Network.T14.2 railplankeep_Network.B14 = true := by kernel_rfl
set_option maxHeartbeats 8000000 in
set_option maxRecDepth 100000 in
theorem railplankeep_Network.calls (k : Nat) (A0 : Option Addr) (c0 : Nat) (l0 : List Int) (r1 : Int) (r2 : List (S60)) (r3 : List (S62)) (w : World) (hr0 : Kd.C (Kd.int .i64) w A0 l0.length l0) (hc0 : l0.length ≤ c0) (h : railplankeep_Network.f k l0 = some (r1, r2, r3)) :
  Calls Try.prog 12 #[.slice A0 l0.length c0] w fun e w' => ∃ v1_ v2_ : Value, e = .returned (.agg #[.int .i64 r1, v1_, v2_]) ∧ Kd.R k60 60 w' w.heap.size (fun _ => True) v1_ r2 ∧ Kd.R k62 62 w' w.heap.size (fun _ => True) v2_ r3 ∧ Below w.heap.size w w' := by
 have hu26 := Try.underlying26
 have hu60 := Try.underlying60
 have hu62 := Try.underlying62
 have HR0 := qo hr0
 have HC0 := qo hc0
 clear hr0 hc0
 have HB := qo (qaj w.heap.size w)
 have H : ((railplankeep_From.f l0).bind fun bt105 => ((railplankeep_Source_Next.f bt105.1 bt105.2 8).bind fun bt108 => ((railplankeep_Source_Next.f bt105.1 bt108.2 5).bind fun bt111 => (railplankeep_Network.l0 k (wrap64 (1 + bt111.1)) bt105.1 bt111.2 (wrap64 (2 + bt108.1)) ([] : List (S60)))))) = some (r1, r2, r3) := h
 clear h
 replace H := Option.bind_eq_some_iff.mp H
 obtain ⟨⟨t105, t106⟩, A20, H⟩ := H
 replace H : ((railplankeep_Source_Next.f t105 t106 8).bind fun bt108 => ((railplankeep_Source_Next.f t105 bt108.2 5).bind fun bt111 => (railplankeep_Network.l0 k (wrap64 (1 + bt111.1)) t105 bt111.2 (wrap64 (2 + bt108.1)) ([] : List (S60))))) = some (r1, r2, r3) := H
 have A2 := qo A20
 clear A20
 replace H := Option.bind_eq_some_iff.mp H
 obtain ⟨⟨t108, t109⟩, A30, H⟩ := H
 replace H : ((railplankeep_Source_Next.f t105 t109 5).bind fun bt111 => (railplankeep_Network.l0 k (wrap64 (1 + bt111.1)) t105 bt111.2 (wrap64 (2 + t108)) ([] : List (S60)))) = some (r1, r2, r3) := H
 have A3 := qo A30
 clear A30
 replace H := Option.bind_eq_some_iff.mp H
 obtain ⟨⟨t111, t112⟩, A40, H⟩ := H
 replace H : (railplankeep_Network.l0 k (wrap64 (1 + t111)) t105 t112 (wrap64 (2 + t108)) ([] : List (S60))) = some (r1, r2, r3) := H
 have A4 := qo A40
 clear A40
 have H' := qo H
 clear H
 go_enter Try.func12, Try.ntmps12
 go_wp2_with (first | ((with_reducible refine gate_dst (N := 2) rfl ?_); refine box_event ?hg (N := 2) ?hd (cs := #[.int .i64 0, .slice none 0 0, .slice none 0 0]) (t := 26) ?hr ?_; (case hd => rfl); (case hg => rfl); (case hr => first | (go_simp; done) | (go_simp; rfl)); intro gb104 hg w5 hbox hb; have n0_ := qo (qt (by repeat (first | (with_reducible first | exact HB.out | apply qc | apply qb | apply qd) | exact HB.out)) hb); have n1_ := qo (hbox); have n2_ := qo ((by rw [hg]; exact (qu (by repeat (first | (with_reducible first | exact HB.out | apply qc | apply qb | apply qd) | exact HB.out))) : w.heap.size ≤ gb104)); have n3_ := qo ((by rw [hg]; exact (qu (by repeat (first | (with_reducible first | exact HB.out | apply qc | apply qb | apply qd) | exact HB.out))) : w.heap.size ≤ gb104)); clear HB; have HB := n0_; have BK104 := n1_; have GW104 := n2_; have GE104 := n3_; clear n0_ n1_ n2_ n3_; clear hb hbox hg) | ((with_reducible refine gate_callee (f := 34) rfl ?_); refine goesL_ (some 10) rfl rfl Try.func34 (by kernel_rfl) rfl #[.slice A0 l0.length c0] rfl (by (try simp only [List.map_toArray, List.map_cons, List.map_nil]); first | done | rfl | (simp only [List.length_drop, List.length_take]; rfl)) ?_; (with_reducible refine (railplankeep_From.calls _ _ l0 t105 t106 w _ ?side1 ?side2 ?side3 A2.out).mono ?_); (case side1 => repeat (first | (with_reducible first | exact HB.out | apply qc | apply qb | apply qd | refine qn ?_ GE104.out) | exact HB.out)); (case side2 => exact HR0.out); (case side3 => exact HC0.out); rintro e w6 ⟨g107, rfl, hi, hb, hb2⟩; refine ⟨_, rfl, ?_⟩; have n0_ := qo (qaa (g := gb104) (o := .cells #[.int .i64 0, .slice none 0 0, .slice none 0 0] 26 (0, 0)) (by (with_reducible repeat (first | refine ql ?_ _ | refine qm ?_ | refine qk ?_ _)); exact BK104.out) hb2); have n1_ := qo (hb); have n2_ := qo (hi); have n3_ := qo (IsS96.ne_blk hi (qaa (g := gb104) (o := .cells #[.int .i64 0, .slice none 0 0, .slice none 0 0] 26 (0, 0)) (by (with_reducible repeat (first | refine ql ?_ _ | refine qm ?_ | refine qk ?_ _)); exact BK104.out) hb2) (by decide)); have n4_ := qo (Ne.symm (IsS96.ne_blk hi (qaa (g := gb104) (o := .cells #[.int .i64 0, .slice none 0 0, .slice none 0 0] 26 (0, 0)) (by (with_reducible repeat (first | refine ql ?_ _ | refine qm ?_ | refine qk ?_ _)); exact BK104.out) hb2) (by decide))); clear BK104; clear HB; have BK104 := n0_; have HB := n1_; have HI107 := n2_; have NB107_104 := n3_; have NB104_107 := n4_; clear n0_ n1_ n2_ n3_ n4_; (try clear hb); (try clear hb2); (try clear hk); (try clear hi)) | ((with_reducible refine gate_callee (f := 35) rfl ?_); refine goesL_ (some 12) rfl rfl Try.func35 (by kernel_rfl) rfl #[.pointer (some ⟨g107, 0, none⟩), .int .i64 8] rfl (by (try simp only [List.map_toArray, List.map_cons, List.map_nil]); first | done | rfl | (simp only [List.length_drop, List.length_take]; rfl)) ?_; (with_reducible refine (railplankeep_Source_Next.calls g107 t105 t106 8 t108 t109 w _ ?side1 ?side2 A3.out).mono ?_); (case side1 => repeat (first | (with_reducible first | exact HI107.out | apply IsS96.alloc | apply IsS96.drewN | apply IsS96.drew | apply IsS96.set_1 | refine IsS96.far ?_ NB107_104.out _) | exact HI107.out)); (case side2 => repeat (first | (with_reducible first | exact HB.out | apply qc | apply qb | apply qd | refine qn ?_ (IsS96.ge HI107.out) | refine qn ?_ GE104.out) | exact HB.out)); rintro e w7 ⟨rfl, hi, hb, hk⟩; refine ⟨_, rfl, ?_⟩; have n0_ := qo (KeepBut.blk hk (g' := gb104) (o := .cells #[.int .i64 0, .slice none 0 0, .slice none 0 0] 26 (0, 0)) (by (with_reducible repeat (first | refine ql ?_ _ | refine qm ?_ | refine qk ?_ _)); exact BK104.out) NB104_107.out (by simp)); have n1_ := qo (hb); have n2_ := qo (hi); clear BK104; clear HB; clear HI107; have BK104 := n0_; have HB := n1_; have HI107 := n2_; clear n0_ n1_ n2_; (try clear hb); (try clear hb2); (try clear hk); (try clear hi)) | ((with_reducible refine gate_dst (N := 4) rfl ?_); refine box_event ?hg (N := 4) ?hd (cs := #[.int .i64 0, .slice none 0 0, .slice none 0 0]) (t := 26) ?hr ?_; (case hd => rfl); (case hg => rfl); (case hr => first | (go_simp; done) | (go_simp; rfl)); intro gb110 hg w8 hbox hb; have n0_ := qo (qaa (g := gb104) (o := .cells #[.int .i64 0, .slice none 0 0, .slice none 0 0] 26 (0, 0)) (by (with_reducible repeat (first | refine ql ?_ _ | refine qm ?_ | refine qk ?_ _)); exact BK104.out) hb); have n1_ := qo (IsS96.below (by repeat (first | (with_reducible first | exact HI107.out | apply IsS96.alloc | apply IsS96.drewN | apply IsS96.drew | apply IsS96.set_1 | refine IsS96.far ?_ NB107_104.out _) | exact HI107.out)) hb); have n2_ := qo (qt (by repeat (first | (with_reducible first | exact HB.out | apply qc | apply qb | apply qd | refine qn ?_ (IsS96.ge HI107.out) | refine qn ?_ GE104.out) | exact HB.out)) hb); have n3_ := qo (hbox); have n4_ := qo ((by rw [hg]; exact (qu (by repeat (first | (with_reducible first | exact HB.out | apply qc | apply qb | apply qd | refine qn ?_ (IsS96.ge HI107.out) | refine qn ?_ GE104.out) | exact HB.out))) : w.heap.size ≤ gb110)); have n5_ := qo ((by rw [hg]; exact (qu (by repeat (first | (with_reducible first | exact HB.out | apply qc | apply qb | apply qd | refine qn ?_ (IsS96.ge HI107.out) | refine qn ?_ GE104.out) | exact HB.out))) : w.heap.size ≤ gb110)); have n6_ := qo ((by rw [hg]; exact qp (blk_lt (g := gb104) (o := .cells #[.int .i64 0, .slice none 0 0, .slice none 0 0] 26 (0, 0)) (by (with_reducible repeat (first | refine ql ?_ _ | refine qm ?_ | refine qk ?_ _)); exact BK104.out)) : gb104 ≠ gb110)); have n7_ := qo ((by rw [hg]; exact Nat.ne_of_gt (blk_lt (g := gb104) (o := .cells #[.int .i64 0, .slice none 0 0, .slice none 0 0] 26 (0, 0)) (by (with_reducible repeat (first | refine ql ?_ _ | refine qm ?_ | refine qk ?_ _)); exact BK104.out)) : gb110 ≠ gb104)); have n8_ := qo ((by rw [hg]; exact qp (IsS96.lt (show IsS96 w _ g107 t105 t109 from by repeat (first | (with_reducible first | exact HI107.out | apply IsS96.alloc | apply IsS96.drewN | apply IsS96.drew | apply IsS96.set_1 | refine IsS96.far ?_ NB107_104.out _) | exact HI107.out))) : g107 ≠ gb110)); have n9_ := qo ((by rw [hg]; exact Nat.ne_of_gt (IsS96.lt (show IsS96 w _ g107 t105 t109 from by repeat (first | (with_reducible first | exact HI107.out | apply IsS96.alloc | apply IsS96.drewN | apply IsS96.drew | apply IsS96.set_1 | refine IsS96.far ?_ NB107_104.out _) | exact HI107.out))) : gb110 ≠ g107)); clear BK104; clear HI107; clear HB; have BK104 := n0_; have HI107 := n1_; have HB := n2_; have BK110 := n3_; have GW110 := n4_; have GE110 := n5_; have NB104_110 := n6_; have NB110_104 := n7_; have NB107_110 := n8_; have NB110_107 := n9_; clear n0_ n1_ n2_ n3_ n4_ n5_ n6_ n7_ n8_ n9_; clear hb hbox hg; have hnb9 := NB110_104.out; have hnc9 := NB104_110.out; have hnb10 := NB110_107.out; have hnc10 := NB107_110.out; have hcz11_0 : w8.cell? ⟨gb110, 0, none⟩ = some (.int .i64 0) := (qe BK110.out 0).trans rfl; have hcz11_1 : w8.cell? ⟨gb110, 1, none⟩ = some (.slice none 0 0) := (qe BK110.out 1).trans rfl; have hcz11_2 : w8.cell? ⟨gb110, 2, none⟩ = some (.slice none 0 0) := (qe BK110.out 2).trans rfl; have hfz11_0 := qf BK110.out 0; have hfz11_1 := qf BK110.out 1; have hfz11_2 := qf BK110.out 2) | ((with_reducible refine gate_callee (f := 35) rfl ?_); refine goesL_ (some 16) rfl rfl Try.func35 (by kernel_rfl) rfl #[.pointer (some ⟨g107, 0, none⟩), .int .i64 5] rfl (by (try simp only [List.map_toArray, List.map_cons, List.map_nil]); first | done | rfl | (simp only [List.length_drop, List.length_take]; rfl)) ?_; (with_reducible refine (railplankeep_Source_Next.calls g107 t105 t109 5 t111 t112 w _ ?side1 ?side2 A4.out).mono ?_); (case side1 => repeat (first | (with_reducible first | exact HI107.out | apply IsS96.alloc | apply IsS96.drewN | apply IsS96.drew | apply IsS96.set_1 | refine IsS96.far ?_ NB107_104.out _ | refine IsS96.far ?_ NB107_110.out _) | exact HI107.out)); (case side2 => repeat (first | (with_reducible first | exact HB.out | apply qc | apply qb | apply qd | refine qn ?_ (IsS96.ge HI107.out) | refine qn ?_ GE104.out | refine qn ?_ GE110.out) | exact HB.out)); rintro e w12 ⟨rfl, hi, hb, hk⟩; refine ⟨_, rfl, ?_⟩; have n0_ := qo (KeepBut.blk hk (g' := gb104) (o := .cells #[.int .i64 0, .slice none 0 0, .slice none 0 0] 26 (0, 0)) (by (with_reducible repeat (first | refine ql ?_ _ | refine qm ?_ | refine qk ?_ _)); refine qam ?_ NB104_110.out _; (with_reducible repeat (first | refine ql ?_ _ | refine qm ?_ | refine qk ?_ _)); refine qam ?_ NB104_110.out _; (with_reducible repeat (first | refine ql ?_ _ | refine qm ?_ | refine qk ?_ _)); refine qam ?_ NB104_110.out _; (with_reducible repeat (first | refine ql ?_ _ | refine qm ?_ | refine qk ?_ _)); exact BK104.out) NB104_107.out (by simp)); have n1_ := qo (KeepBut.blk hk (g' := gb110) (o := .cells #[.int .i64 (wrap64 (2 + t108)), .slice none 0 0, .slice none 0 0] 26 (0, 0)) (by (with_reducible repeat (first | refine ql ?_ _ | refine qm ?_ | refine qk ?_ _)); refine qal (cs := #[.int .i64 (wrap64 (2 + t108)), .slice none 0 0, .slice none 0 0]) ?_ 2 _ rfl; (with_reducible repeat (first | refine ql ?_ _ | refine qm ?_ | refine qk ?_ _)); refine qal (cs := #[.int .i64 (wrap64 (2 + t108)), .slice none 0 0, .slice none 0 0]) ?_ 1 _ rfl; (with_reducible repeat (first | refine ql ?_ _ | refine qm ?_ | refine qk ?_ _)); refine qal (cs := #[.int .i64 0, .slice none 0 0, .slice none 0 0]) ?_ 0 _ rfl; (with_reducible repeat (first | refine ql ?_ _ | refine qm ?_ | refine qk ?_ _)); exact BK110.out) NB110_107.out (by simp)); have n2_ := qo (hb); have n3_ := qo (hi); clear BK104; clear BK110; clear HB; clear HI107; have BK104 := n0_; have BK110 := n1_; have HB := n2_; have HI107 := n3_; clear n0_ n1_ n2_ n3_; (try clear hb); (try clear hb2); (try clear hk); (try clear hi)))
 go_loopg [5] k (fun kq v5 w' => ∃ (x5_1 : Int) (x108001_1 : Int) (x111001_1 : List (S60)) (u111001 : Value), v5 = .int .i64 x5_1 ∧ Aside0 (railplankeep_Network.l0 kq x5_1 t105 x108001_1 (wrap64 (2 + t108)) x111001_1 = some (r1, r2, r3)) ∧ Aside0 (kq ≤ k) ∧ Aside0 (Kd.R k60 60 w' w.heap.size (fun _ => True) u111001 x111001_1) ∧ Aside0 (w'.heap[gb104]? = some (.cells #[.int .i64 0, (.slice none 0 0), (.slice none 0 0)] 26 (0, 0))) ∧ Aside0 (w'.heap[gb110]? = some (.cells #[.int .i64 (wrap64 (2 + t108)), u111001, (.slice none 0 0)] 26 (0, 0))) ∧ Aside0 (IsS96 w w' g107 t105 x108001_1) ∧ Aside0 (Below w.heap.size w w'))
 case atStart => exact ⟨(wrap64 (1 + t111)), (t112), (([] : List (S60))), (.slice none 0 0), (by first | rfl | (simp; done) | (simp [*]; done)), H', ⟨Nat.le_refl _⟩, ⟨by first | exact Kd.R_nil _ _ _ _ _ | exact Kd.N_nil _ _ _ _ _ | exact Kd.V_nil _ _ _ _ _ | exact Kd.Q_nil _ _ _ _ _ | exact Kd.S_nil _ _ _ _ _⟩, ⟨by (with_reducible repeat (first | refine ql ?_ _ | refine qm ?_ | refine qk ?_ _)); exact BK104.out⟩, ⟨by (with_reducible repeat (first | refine ql ?_ _ | refine qm ?_ | refine qk ?_ _)); exact BK110.out⟩, ⟨by repeat (first | (with_reducible first | exact HI107.out | apply IsS96.alloc | apply IsS96.drewN | apply IsS96.drew | apply IsS96.set_1 | refine IsS96.far ?_ NB107_104.out _ | refine IsS96.far ?_ NB107_110.out _) | exact HI107.out)⟩, ⟨by repeat (first | (with_reducible first | exact HB.out | apply qc | apply qb | apply qd | refine qn ?_ (IsS96.ge HI107.out) | refine qn ?_ GE104.out | refine qn ?_ GE110.out) | exact HB.out)⟩⟩
 case round =>
  clear H'
  try clear c1
  try clear p2
  try clear c3
  try clear p6
  try clear c9
  try clear c10
  try clear c12
  try clear hcz11_0
  try clear hcz11_1
  try clear hcz11_2
  try clear hfz11_0
  try clear hfz11_1
  try clear hfz11_2
  obtain ⟨x5_1, x108001_1, x111001_1, u111001, rfl, HA, HK1, HO_111001, BK104, BK110, HI107, HB⟩ := hrel
  cases gk with
  | zero => exact absurd HA.out (by simp [railplankeep_Network.l0])
  | succ k1 =>
   have H := HA.out
   clear HA
   simp only [railplankeep_Network.l0] at H
   by_cases c13 : x5_1 > 0
   ·rw [if_pos c13] at H
    have c13b0 : decide (0 < x5_1) = true := qac c13
    clear c13
    replace H := Option.bind_eq_some_iff.mp H
    obtain ⟨⟨t113, t114⟩, A140, H⟩ := H
    replace H : ((railplankeep_Source_Next.f t105 t114 3).bind fun bt115 => ((railplankeep_Source_Next.f t105 bt115.2 3).bind fun bt117 => (if x111001_1.length < 5864062014805 then (railplankeep_Network.l0 k1 (wrap64 (x5_1 - 1)) t105 bt117.2 (wrap64 (2 + t108)) (x111001_1 ++ [(⟨wrap64 (1 + t113), bt115.1, bt117.1⟩ : S60)])) else (none)))) = some (r1, r2, r3) := H
    have A14 := qo A140
    clear A140
    replace H := Option.bind_eq_some_iff.mp H
    obtain ⟨⟨t115, t116⟩, A150, H⟩ := H
    replace H : ((railplankeep_Source_Next.f t105 t116 3).bind fun bt117 => (if x111001_1.length < 5864062014805 then (railplankeep_Network.l0 k1 (wrap64 (x5_1 - 1)) t105 bt117.2 (wrap64 (2 + t108)) (x111001_1 ++ [(⟨wrap64 (1 + t113), t115, bt117.1⟩ : S60)])) else (none))) = some (r1, r2, r3) := H
    have A15 := qo A150
    clear A150
    replace H := Option.bind_eq_some_iff.mp H
    obtain ⟨⟨t117, t118⟩, A160, H⟩ := H
    replace H : (if x111001_1.length < 5864062014805 then (railplankeep_Network.l0 k1 (wrap64 (x5_1 - 1)) t105 t118 (wrap64 (2 + t108)) (x111001_1 ++ [(⟨wrap64 (1 + t113), t115, t117⟩ : S60)])) else (none)) = some (r1, r2, r3) := H
    have A16 := qo A160
    clear A160
    by_cases c17 : x111001_1.length < 5864062014805
    ·rw [if_pos c17] at H
     have LMc17 := qo c17
     clear c17
     obtain ⟨y119, hy119⟩ : ∃ y_ : List (S60), y_ = (x111001_1 ++ [(⟨wrap64 (1 + t113), t115, t117⟩ : S60)]) := ⟨_, rfl⟩
     replace H : (railplankeep_Network.l0 k1 (wrap64 (x5_1 - 1)) t105 t118 (wrap64 (2 + t108)) y119) = some (r1, r2, r3) := by first | (rw [hy119]; with_reducible exact H) | (have H2_ := (Option.bind_some _ _).symm.trans H; rw [hy119]; with_reducible exact H2_) | (have H2_ := (Option.bind_some _ _).symm.trans H; with_reducible exact H2_) | with_reducible exact H | (rw [hy119]; exact H) | exact H
     have Ny119 := qo hy119
     clear hy119
     have H' := qo H
     clear H
     try go_wp2
     have n0_ := qo (qi HO_111001.out)
     have n1_ := qo (qm BK104.out)
     have n2_ := qo (qm BK110.out)
     have n3_ := qo (IsS96.drew HI107.out)
     have n4_ := qo (qd HB.out)
     clear HO_111001
     clear BK104
     clear BK110
     clear HI107
     clear HB
     have HO_111001 := n0_
     have BK104 := n1_
     have BK110 := n2_
     have HI107 := n3_
     have HB := n4_
     clear n0_ n1_ n2_ n3_ n4_
     refine start_ (n := 14) (S := fun w' => w'.cell? ⟨gb110, 0, none⟩ = some (.int .i64 (wrap64 (2 + t108))) ∧ w'.cell? ⟨gb110, 1, none⟩ = some (u111001) ∧ w'.cell? ⟨gb110, 2, none⟩ = some (.slice none 0 0)) (ds := [13]) #[false, false, false, false, false, false, false, false, false, false, false, false, false, false] (by kernel_rfl) rfl rfl ⟨(qe BK110.out 0).trans rfl, (qe BK110.out 1).trans rfl, (qe BK110.out 2).trans rfl⟩ (fun hHeld => ?_); refine with_tabW railplankeep_Network.tab6 railplankeep_Network.bits6 (fun HT_ HW_ => ?_)
     generalize wr.drew = w18 at HO_111001 BK104 BK110 HI107 HB hHeld ⊢
     refine pure_ (i := 0) (N := some 22) (v := ?_) (a' := ?_) #[true, false, false, false, false, false, false, false, false, false, false, false, false, false] rfl rfl (any_of HT_.out (by kernel_rfl)) (fun _ _ _ h => h) (Or.inl ⟨by rfl, ?_⟩) ?_ ?_
     rotate_left
     ·intro w'
      go_simp
      with_reducible rfl
     rotate_left
     ·simp only [Act.put, List.setIfInBounds_toArray, List.set_cons_zero, List.set_cons_succ, i64_w, i32_w]
      rfl
     refine pure_ (i := 2) (N := some 24) (v := ?_) (a' := ?_) #[true, false, true, false, false, false, false, false, false, false, false, false, false, false] rfl rfl (any_of HT_.out (by kernel_rfl)) (fun _ _ _ h => h) (Or.inl ⟨by rfl, ?_⟩) ?_ ?_
     rotate_left
     ·intro w'
      go_simp
      with_reducible rfl
     rotate_left
     ·simp only [Act.put, List.setIfInBounds_toArray, List.set_cons_zero, List.set_cons_succ, i64_w, i32_w]
      rfl
     refine pure_ (i := 5) (N := some 27) (v := ?_) (a' := ?_) #[true, false, true, false, false, true, false, false, false, false, false, false, false, false] rfl rfl (any_of HT_.out (by kernel_rfl)) (fun _ _ _ h => h) (Or.inl ⟨by rfl, ?_⟩) ?_ ?_
     rotate_left
     ·intro w'
      go_simp
      with_reducible rfl
     rotate_left
     ·simp only [Act.put, List.setIfInBounds_toArray, List.set_cons_zero, List.set_cons_succ, i64_w, i32_w]
      rfl
     refine pure_ (i := 7) (N := some 29) (v := ?_) (a' := ?_) #[true, false, true, false, false, true, false, true, false, false, false, false, false, false] rfl rfl (any_of HT_.out (by kernel_rfl)) (fun _ _ _ h => h) (Or.inl ⟨by rfl, ?_⟩) ?_ ?_
     rotate_left
     ·intro w'
      go_simp
      with_reducible rfl
     rotate_left
     ·simp only [Act.put, List.setIfInBounds_toArray, List.set_cons_zero, List.set_cons_succ, i64_w, i32_w]
      rfl
     refine take_ (i := 1) (N := some 23) (v := ?_) (a' := ?_) #[true, true, true, false, false, true, false, true, false, false, false, false, false, false] rfl rfl (take_ofW HT_.out HW_.out (by kernel_rfl)) (fun _ _ _ h => h) (Or.inl ⟨by rfl, ?_⟩) hHeld ?_ ?_
     rotate_left
     ·rintro w' ⟨s0, s1, s2⟩
      go_simp
      with_reducible rfl
     rotate_left
     ·simp only [Act.put, List.setIfInBounds_toArray, List.set_cons_zero, List.set_cons_succ, i64_w, i32_w]
      rfl
     refine one_ (i := 3) (N := some 25) #[true, true, true, true, false, true, false, true, false, false, false, false, false, false] rfl rfl (one_of HT_.out (by kernel_rfl)) (by decide) (fun K hK => ?_)
     refine goes_ Try.func35 (by kernel_rfl) rfl #[.pointer (some ⟨g107, 0, none⟩), .int .i64 2] (by rfl) rfl rfl (by (try simp only [List.map_toArray, List.map_cons, List.map_nil]); first | done | rfl | (simp only [List.length_drop, List.length_take]; rfl)) ?_
     with_reducible refine (railplankeep_Source_Next.calls g107 t105 x108001_1 2 t113 t114 w _ ?side1 ?side2 A14.out).mono ?_
     (case side1 => repeat (first | (with_reducible first | exact HI107.out | apply IsS96.alloc | apply IsS96.drewN | apply IsS96.drew | apply IsS96.set_1 | refine IsS96.far ?_ NB107_104.out _ | refine IsS96.far ?_ NB107_110.out _) | exact HI107.out))
     (case side2 => repeat (first | (with_reducible first | exact HB.out | apply qc | apply qb | apply qd | refine qn ?_ (IsS96.ge HI107.out) | refine qn ?_ GE104.out | refine qn ?_ GE110.out) | exact HB.out))
     rintro e w19 ⟨rfl, hi, hb, hk⟩
     refine ⟨_, rfl, ?_⟩
     have n0_ := qo (qy (Kd.R_keep (IsS96.apart (show IsS96 w _ g107 t105 x108001_1 from by repeat (first | (with_reducible first | exact HI107.out | apply IsS96.alloc | apply IsS96.drewN | apply IsS96.drew | apply IsS96.set_1 | refine IsS96.far ?_ NB107_104.out _ | refine IsS96.far ?_ NB107_110.out _) | exact HI107.out)) (by (with_reducible repeat (first | apply qh | apply qg | apply qi)); exact HO_111001.out) (by decide)) hk (fun _ h => h.2)) (fun _ h => h.1))
     have n1_ := qo (KeepBut.blk hk (g' := gb104) (o := .cells #[.int .i64 0, .slice none 0 0, .slice none 0 0] 26 (0, 0)) (by (with_reducible repeat (first | refine ql ?_ _ | refine qm ?_ | refine qk ?_ _)); exact BK104.out) NB104_107.out (by simp))
     have n2_ := qo (KeepBut.blk hk (g' := gb110) (o := .cells #[.int .i64 (wrap64 (2 + t108)), u111001, .slice none 0 0] 26 (0, 0)) (by (with_reducible repeat (first | refine ql ?_ _ | refine qm ?_ | refine qk ?_ _)); exact BK110.out) NB110_107.out (by simp))
     have n3_ := qo (hb)
     have n4_ := qo (hi)
     clear HO_111001
     clear BK104
     clear BK110
     clear HB
     clear HI107
     have HO_111001 := n0_
     have BK104 := n1_
     have BK110 := n2_
     have HB := n3_
     have HI107 := n4_
     clear n0_ n1_ n2_ n3_ n4_
     (try clear hb)
     (try clear hb2)
     (try clear hk)
     (try clear hi)
     refine hK.out _ _ ⟨(qe BK110.out 0).trans rfl, (qe BK110.out 1).trans rfl, (qe BK110.out 2).trans rfl⟩ (fun hHeld => ?_)
     clear hK K
     refine norm_ (a' := ?_) ?_ ?_
     rotate_left
     ·show Act.put _ (some 25) _ = _
      simp only [Act.put, List.setIfInBounds_toArray, List.set_cons_zero, List.set_cons_succ, i64_w, i32_w]
      rfl
     refine pure_ (i := 4) (N := some 26) (v := ?_) (a' := ?_) #[true, true, true, true, true, true, false, true, false, false, false, false, false, false] rfl rfl (any_of HT_.out (by kernel_rfl)) (fun _ _ _ h => h) (Or.inl ⟨by rfl, ?_⟩) ?_ ?_
     rotate_left
     ·intro w'
      go_simp
      with_reducible rfl
     rotate_left
     ·simp only [Act.put, List.setIfInBounds_toArray, List.set_cons_zero, List.set_cons_succ, i64_w, i32_w]
      rfl
     refine one_ (i := 6) (N := some 28) #[true, true, true, true, true, true, true, true, false, false, false, false, false, false] rfl rfl (one_of HT_.out (by kernel_rfl)) (by decide) (fun K hK => ?_)
     refine goes_ Try.func35 (by kernel_rfl) rfl #[.pointer (some ⟨g107, 0, none⟩), .int .i64 3] (by rfl) rfl rfl (by (try simp only [List.map_toArray, List.map_cons, List.map_nil]); first | done | rfl | (simp only [List.length_drop, List.length_take]; rfl)) ?_
     with_reducible refine (railplankeep_Source_Next.calls g107 t105 t114 3 t115 t116 w _ ?side1 ?side2 A15.out).mono ?_
     (case side1 => repeat (first | (with_reducible first | exact HI107.out | apply IsS96.alloc | apply IsS96.drewN | apply IsS96.drew | apply IsS96.set_1 | refine IsS96.far ?_ NB107_104.out _ | refine IsS96.far ?_ NB107_110.out _) | exact HI107.out))
     (case side2 => repeat (first | (with_reducible first | exact HB.out | apply qc | apply qb | apply qd | refine qn ?_ (IsS96.ge HI107.out) | refine qn ?_ GE104.out | refine qn ?_ GE110.out) | exact HB.out))
     rintro e w20 ⟨rfl, hi, hb, hk⟩
     refine ⟨_, rfl, ?_⟩
     have n0_ := qo (qy (Kd.R_keep (IsS96.apart (show IsS96 w _ g107 t105 t114 from by repeat (first | (with_reducible first | exact HI107.out | apply IsS96.alloc | apply IsS96.drewN | apply IsS96.drew | apply IsS96.set_1 | refine IsS96.far ?_ NB107_104.out _ | refine IsS96.far ?_ NB107_110.out _) | exact HI107.out)) (by (with_reducible repeat (first | apply qh | apply qg | apply qi)); exact HO_111001.out) (by decide)) hk (fun _ h => h.2)) (fun _ h => h.1))
     have n1_ := qo (KeepBut.blk hk (g' := gb104) (o := .cells #[.int .i64 0, .slice none 0 0, .slice none 0 0] 26 (0, 0)) (by (with_reducible repeat (first | refine ql ?_ _ | refine qm ?_ | refine qk ?_ _)); exact BK104.out) NB104_107.out (by simp))
     have n2_ := qo (KeepBut.blk hk (g' := gb110) (o := .cells #[.int .i64 (wrap64 (2 + t108)), u111001, .slice none 0 0] 26 (0, 0)) (by (with_reducible repeat (first | refine ql ?_ _ | refine qm ?_ | refine qk ?_ _)); exact BK110.out) NB110_107.out (by simp))
     have n3_ := qo (hb)
     have n4_ := qo (hi)
     clear HO_111001
     clear BK104
     clear BK110
     clear HB
     clear HI107
     have HO_111001 := n0_
     have BK104 := n1_
     have BK110 := n2_
     have HB := n3_
     have HI107 := n4_
     clear n0_ n1_ n2_ n3_ n4_
     (try clear hb)
     (try clear hb2)
     (try clear hk)
     (try clear hi)
     refine hK.out _ _ ⟨(qe BK110.out 0).trans rfl, (qe BK110.out 1).trans rfl, (qe BK110.out 2).trans rfl⟩ (fun hHeld => ?_)
     clear hK K
     refine norm_ (a' := ?_) ?_ ?_
     rotate_left
     ·show Act.put _ (some 28) _ = _
      simp only [Act.put, List.setIfInBounds_toArray, List.set_cons_zero, List.set_cons_succ, i64_w, i32_w]
      rfl
     refine one_ (i := 8) (N := some 30) #[true, true, true, true, true, true, true, true, true, false, false, false, false, false] rfl rfl (one_of HT_.out (by kernel_rfl)) (by decide) (fun K hK => ?_)
     refine goes_ Try.func35 (by kernel_rfl) rfl #[.pointer (some ⟨g107, 0, none⟩), .int .i64 3] (by rfl) rfl rfl (by (try simp only [List.map_toArray, List.map_cons, List.map_nil]); first | done | rfl | (simp only [List.length_drop, List.length_take]; rfl)) ?_
     with_reducible refine (railplankeep_Source_Next.calls g107 t105 t116 3 t117 t118 w _ ?side1 ?side2 A16.out).mono ?_
     (case side1 => repeat (first | (with_reducible first | exact HI107.out | apply IsS96.alloc | apply IsS96.drewN | apply IsS96.drew | apply IsS96.set_1 | refine IsS96.far ?_ NB107_104.out _ | refine IsS96.far ?_ NB107_110.out _) | exact HI107.out))
     (case side2 => repeat (first | (with_reducible first | exact HB.out | apply qc | apply qb | apply qd | refine qn ?_ (IsS96.ge HI107.out) | refine qn ?_ GE104.out | refine qn ?_ GE110.out) | exact HB.out))
     rintro e w21 ⟨rfl, hi, hb, hk⟩
     refine ⟨_, rfl, ?_⟩
     have n0_ := qo (qy (Kd.R_keep (IsS96.apart (show IsS96 w _ g107 t105 t116 from by repeat (first | (with_reducible first | exact HI107.out | apply IsS96.alloc | apply IsS96.drewN | apply IsS96.drew | apply IsS96.set_1 | refine IsS96.far ?_ NB107_104.out _ | refine IsS96.far ?_ NB107_110.out _) | exact HI107.out)) (by (with_reducible repeat (first | apply qh | apply qg | apply qi)); exact HO_111001.out) (by decide)) hk (fun _ h => h.2)) (fun _ h => h.1))
     have n1_ := qo (KeepBut.blk hk (g' := gb104) (o := .cells #[.int .i64 0, .slice none 0 0, .slice none 0 0] 26 (0, 0)) (by (with_reducible repeat (first | refine ql ?_ _ | refine qm ?_ | refine qk ?_ _)); exact BK104.out) NB104_107.out (by simp))
     have n2_ := qo (KeepBut.blk hk (g' := gb110) (o := .cells #[.int .i64 (wrap64 (2 + t108)), u111001, .slice none 0 0] 26 (0, 0)) (by (with_reducible repeat (first | refine ql ?_ _ | refine qm ?_ | refine qk ?_ _)); exact BK110.out) NB110_107.out (by simp))
     have n3_ := qo (hb)
     have n4_ := qo (hi)
     clear HO_111001
     clear BK104
     clear BK110
     clear HB
     clear HI107
     have HO_111001 := n0_
     have BK104 := n1_
     have BK110 := n2_
     have HB := n3_
     have HI107 := n4_
     clear n0_ n1_ n2_ n3_ n4_
     (try clear hb)
     (try clear hb2)
     (try clear hk)
     (try clear hi)
     refine hK.out _ _ ⟨(qe BK110.out 0).trans rfl, (qe BK110.out 1).trans rfl, (qe BK110.out 2).trans rfl⟩ (fun hHeld => ?_)
     clear hK K
     refine norm_ (a' := ?_) ?_ ?_
     rotate_left
     ·show Act.put _ (some 30) _ = _
      simp only [Act.put, List.setIfInBounds_toArray, List.set_cons_zero, List.set_cons_succ, i64_w, i32_w]
      rfl
     refine pure_ (i := 9) (N := some 31) (v := ?_) (a' := ?_) #[true, true, true, true, true, true, true, true, true, true, false, false, false, false] rfl rfl (any_of HT_.out (by kernel_rfl)) (fun _ _ _ h => h) (Or.inl ⟨by rfl, ?_⟩) ?_ ?_
     rotate_left
     ·intro w'
      go_simp
      with_reducible rfl
     rotate_left
     ·simp only [Act.put, List.setIfInBounds_toArray, List.set_cons_zero, List.set_cons_succ, i64_w, i32_w]
      rfl
     refine one_ (i := 10) (N := some 32) #[true, true, true, true, true, true, true, true, true, true, true, false, false, false] rfl rfl (one_of HT_.out (by kernel_rfl)) (by decide) (fun K hK => ?_)
     refine value_ (w1 := ?_) (v := ?_) (by rfl) rfl ?_ ?_
     rotate_left 2
     ·go_simp
      constructor
      ·rfl
      ·rfl
     refine hK.out _ _ ⟨(qe (qk BK110.out _) 0).trans rfl, (qe (qk BK110.out _) 1).trans rfl, (qe (qk BK110.out _) 2).trans rfl⟩ (fun hHeld => ?_)
     clear hK K
     refine norm_ (a' := ?_) ?_ ?_
     rotate_left
     ·show Act.put _ (some 32) _ = _
      simp only [Act.put, List.setIfInBounds_toArray, List.set_cons_zero, List.set_cons_succ, i64_w, i32_w]
      rfl
     refine one_ (i := 11) (N := some 33) #[true, true, true, true, true, true, true, true, true, true, true, true, false, false] rfl rfl (one_of HT_.out (by kernel_rfl)) (by decide) (fun K hK => ?_)
     refine Kd.R_append_step k60 (w0 := w) w.heap.size (by rfl) (.tmp 23) (.tmp 32) 23 60 (.agg #[(.int .i64 0), (.int .i64 0), (.int .i64 0)]) 24 rfl Try.underlying23 info60 rfl (by decide) (by omega) u111001 x111001_1 (⟨wrap64 (1 + t113), t115, t117⟩ : S60) [.int .i64 (wrap64 (1 + t113)), .int .i64 t115, .int .i64 t117] (fun _ => True) (fun _ => False) rfl rfl ?aP (fun _ hk => hk.elim) ?aF ?aO ?aB ?aS ?aL ?_
     (case aP => exact k60_mkM _ _ _ (⟨wrap64 (1 + t113), t115, t117⟩ : S60))
     (case aB => exact (by repeat (first | (with_reducible first | exact HB.out | apply qc | apply qb | apply qd | refine qn ?_ (IsS96.ge HI107.out) | refine qn ?_ GE104.out | refine qn ?_ GE110.out) | exact HB.out)))
     (case aF => exact (fun _ _ => trivial))
     (case aO => exact (by (with_reducible repeat (first | apply qh | apply qg | apply qi)); exact HO_111001.out))
     (case aS => exact (qu (by repeat (first | (with_reducible first | exact HB.out | apply qc | apply qb | apply qd | refine qn ?_ (IsS96.ge HI107.out) | refine qn ?_ GE104.out | refine qn ?_ GE110.out) | exact HB.out))))
     (case aL => have := LMc17.out; omega)
     intro v120 w22 ho hb hg hat
     rw [← Ny119.out] at ho
     have n0_ := qo (blk_grown (g := gb104) (o := .cells #[.int .i64 0, .slice none 0 0, .slice none 0 0] 26 (0, 0)) (by (with_reducible repeat (first | refine ql ?_ _ | refine qm ?_ | refine qk ?_ _)); exact BK104.out) hg (Kd.R_ne HO_111001.out BK104.out (by decide)))
     have n1_ := qo (blk_grown (g := gb110) (o := .cells #[.int .i64 (wrap64 (2 + t108)), u111001, .slice none 0 0] 26 (0, 0)) (by (with_reducible repeat (first | refine ql ?_ _ | refine qm ?_ | refine qk ?_ _)); exact BK110.out) hg (Kd.R_ne HO_111001.out BK110.out (by decide)))
     have n2_ := qo (IsS96.grown (by first | exact IsS96.far HI107.out NB107_104.out _ | exact IsS96.far HI107.out NB107_110.out _ | repeat (first | (with_reducible first | exact HI107.out | apply IsS96.alloc | apply IsS96.drewN | apply IsS96.drew | apply IsS96.set_1 | refine IsS96.far ?_ NB107_104.out _ | refine IsS96.far ?_ NB107_110.out _) | exact HI107.out)) hg (IsS96.own_ne HI107.out HO_111001.out (by decide)))
     have n3_ := qo (hb)
     have n4_ := qo (ho)
     clear BK104
     clear BK110
     clear HI107
     clear HB
     clear HO_111001
     have BK104 := n0_
     have BK110 := n1_
     have HI107 := n2_
     have HB := n3_
     have HO121 := n4_
     clear n0_ n1_ n2_ n3_ n4_
     clear ho hb hg hat
     obtain ⟨Ao23, co23, eo23⟩ := qak HO121.out
     (first | subst eo23 | (injection eo23 with f1_ f2_ f3_; have f4_ := f1_.symm; have f5_ := f3_.symm; clear f1_ f2_ f3_; subst f4_; subst f5_))
     refine hK.out _ _ ⟨(qe BK110.out 0).trans rfl, (qe BK110.out 1).trans rfl, (qe BK110.out 2).trans rfl⟩ (fun hHeld => ?_)
     clear hK K
     refine norm_ (a' := ?_) ?_ ?_
     rotate_left
     ·show Act.put _ (some 33) _ = _
      simp only [Act.put, List.setIfInBounds_toArray, List.set_cons_zero, List.set_cons_succ, i64_w, i32_w]
      rfl
     refine pure_ (i := 12) (N := some 34) (v := ?_) (a' := ?_) #[true, true, true, true, true, true, true, true, true, true, true, true, true, false] rfl rfl (any_of HT_.out (by kernel_rfl)) (fun _ _ _ h => h) (Or.inl ⟨by rfl, ?_⟩) ?_ ?_
     rotate_left
     ·intro w'
      go_simp
      with_reducible rfl
     rotate_left
     ·simp only [Act.put, List.setIfInBounds_toArray, List.set_cons_zero, List.set_cons_succ, i64_w, i32_w]
      rfl
     refine last_ (i := 13) (N := none) #[true, true, true, true, true, true, true, true, true, true, true, true, true, true] rfl rfl (one_of HT_.out (by kernel_rfl)) (by decide) (fun K hK => ?_)
     have hs24 : w22.cell? ⟨gb110, 1, none⟩ = some (u111001) := (qe BK110.out 1).trans rfl
     have hfs24 := qf BK110.out 1
     have hns24_0 := NB104_110.out
     have hms24_0 := NB110_104.out
     refine skip_ (w1 := ?_) (by rfl) rfl ?_ ?_
     rotate_left
     ·go_simp
      rfl
     refine hK.out _ _ ?_
     clear hK K
     refine done_ (done_of HT_.out (by kernel_rfl)) ?_
     try go_wp2
     go_roundg k1
     case measure => have := HK1.out; omega
     case rel => exact ⟨(wrap64 (x5_1 - 1)), (t118), (y119), (.slice Ao23 y119.length co23), (by first | rfl | (simp; done) | (simp [*]; done)), H', ⟨by have := HK1.out; omega⟩, ⟨by (with_reducible repeat (first | apply qh | apply qg | apply qi)); exact qy (qz (p := ⟨gb110, 1, none⟩) (qaf HO121.out BK110.out (by decide)) (fun _ hk => hk.2) (.slice Ao23 y119.length co23)) (fun _ hk => trivial)⟩, ⟨by (with_reducible repeat (first | refine ql ?_ _ | refine qm ?_ | refine qk ?_ _)); refine qam ?_ NB104_110.out _; (with_reducible repeat (first | refine ql ?_ _ | refine qm ?_ | refine qk ?_ _)); exact BK104.out⟩, ⟨by (with_reducible repeat (first | refine ql ?_ _ | refine qm ?_ | refine qk ?_ _)); refine qal (cs := #[.int .i64 (wrap64 (2 + t108)), u111001, .slice none 0 0]) ?_ 1 _ rfl; (with_reducible repeat (first | refine ql ?_ _ | refine qm ?_ | refine qk ?_ _)); exact BK110.out⟩, ⟨by repeat (first | (with_reducible first | exact HI107.out | apply IsS96.alloc | apply IsS96.drewN | apply IsS96.drew | apply IsS96.set_1 | refine IsS96.far ?_ NB107_104.out _ | refine IsS96.far ?_ NB107_110.out _) | exact HI107.out)⟩, ⟨by repeat (first | (with_reducible first | exact HB.out | apply qc | apply qb | apply qd | refine qn ?_ (IsS96.ge HI107.out) | refine qn ?_ GE104.out | refine qn ?_ GE110.out) | exact HB.out)⟩⟩
    ·rw [if_neg c17] at H
     exact absurd H (by simp)
   ·rw [if_neg c13] at H
    have c13b0 : decide (0 < x5_1) = false := qad c13
    clear c13
    replace H := Option.bind_eq_some_iff.mp H
    obtain ⟨⟨t122, t123⟩, A250, H⟩ := H
    replace H : (railplankeep_Network.l1 k1 (x111001_1.length : Int) t122 t105 t123 (wrap64 (2 + t108)) x111001_1 ([] : List (S62))) = some (r1, r2, r3) := H
    have A25 := qo A250
    clear A250
    have H' := qo H
    clear H
    have hnb26 := NB110_104.out
    have hnc26 := NB104_110.out
    have hnb27 := NB110_107.out
    have hnc27 := NB107_110.out
    have hcz28_0 : wr.cell? ⟨gb110, 0, none⟩ = some (.int .i64 (wrap64 (2 + t108))) := (qe BK110.out 0).trans rfl
    have hcz28_1 : wr.cell? ⟨gb110, 1, none⟩ = some (u111001) := (qe BK110.out 1).trans rfl
    have hcz28_2 : wr.cell? ⟨gb110, 2, none⟩ = some (.slice none 0 0) := (qe BK110.out 2).trans rfl
    have hfz28_0 := qf BK110.out 0
    have hfz28_1 := qf BK110.out 1
    have hfz28_2 := qf BK110.out 2
    obtain ⟨Ao29, co29, eo29⟩ := qak HO_111001.out
    subst eo29
    go_wp2_with (first | ((with_reducible refine gate_callee (f := 35) rfl ?_); refine goesL_ (some 39) rfl rfl Try.func35 (by kernel_rfl) rfl #[.pointer (some ⟨g107, 0, none⟩), .int .i64 9] rfl (by (try simp only [List.map_toArray, List.map_cons, List.map_nil]); first | done | rfl | (simp only [List.length_drop, List.length_take]; rfl)) ?_; (with_reducible refine (railplankeep_Source_Next.calls g107 t105 x108001_1 9 t122 t123 w _ ?side1 ?side2 A25.out).mono ?_); (case side1 => repeat (first | (with_reducible first | exact HI107.out | apply IsS96.alloc | apply IsS96.drewN | apply IsS96.drew | apply IsS96.set_1 | refine IsS96.far ?_ NB107_104.out _ | refine IsS96.far ?_ NB107_110.out _) | exact HI107.out)); (case side2 => repeat (first | (with_reducible first | exact HB.out | apply qc | apply qb | apply qd | refine qn ?_ (IsS96.ge HI107.out) | refine qn ?_ GE104.out | refine qn ?_ GE110.out) | exact HB.out)); rintro e w30 ⟨rfl, hi, hb, hk⟩; refine ⟨_, rfl, ?_⟩; have n0_ := qo (qy (Kd.R_keep (IsS96.apart (show IsS96 w _ g107 t105 x108001_1 from by repeat (first | (with_reducible first | exact HI107.out | apply IsS96.alloc | apply IsS96.drewN | apply IsS96.drew | apply IsS96.set_1 | refine IsS96.far ?_ NB107_104.out _ | refine IsS96.far ?_ NB107_110.out _) | exact HI107.out)) (by (with_reducible repeat (first | apply qh | apply qg | apply qi)); exact HO_111001.out) (by decide)) hk (fun _ h => h.2)) (fun _ h => h.1)); have n1_ := qo (KeepBut.blk hk (g' := gb104) (o := .cells #[.int .i64 0, .slice none 0 0, .slice none 0 0] 26 (0, 0)) (by (with_reducible repeat (first | refine ql ?_ _ | refine qm ?_ | refine qk ?_ _)); exact BK104.out) NB104_107.out (by simp)); have n2_ := qo (KeepBut.blk hk (g' := gb110) (o := .cells #[.int .i64 (wrap64 (2 + t108)), .slice Ao29 x111001_1.length co29, .slice none 0 0] 26 (0, 0)) (by (with_reducible repeat (first | refine ql ?_ _ | refine qm ?_ | refine qk ?_ _)); exact BK110.out) NB110_107.out (by simp)); have n3_ := qo (hb); have n4_ := qo (hi); clear HO_111001; clear BK104; clear BK110; clear HB; clear HI107; have HO_111001 := n0_; have BK104 := n1_; have BK110 := n2_; have HB := n3_; have HI107 := n4_; clear n0_ n1_ n2_ n3_ n4_; (try clear hb); (try clear hb2); (try clear hk); (try clear hi)))
    go_loopg [7] k1 (fun kq v7 w' => ∃ (x7_2 : Int) (x108001_2 : Int) (x111002_2 : List (S62)) (u111002 : Value), v7 = .int .i64 x7_2 ∧ Aside0 (railplankeep_Network.l1 kq (x111001_1.length : Int) x7_2 t105 x108001_2 (wrap64 (2 + t108)) x111001_1 x111002_2 = some (r1, r2, r3)) ∧ Aside0 (kq ≤ k1) ∧ Aside0 (Kd.R k60 60 w' w.heap.size (fun _ => True) (.slice Ao29 x111001_1.length co29) x111001_1) ∧ Aside0 (Kd.R k62 62 w' w.heap.size (fun _ => True) u111002 x111002_2) ∧ Aside0 (w'.heap[gb104]? = some (.cells #[.int .i64 0, (.slice none 0 0), (.slice none 0 0)] 26 (0, 0))) ∧ Aside0 (w'.heap[gb110]? = some (.cells #[.int .i64 (wrap64 (2 + t108)), (.slice Ao29 x111001_1.length co29), u111002] 26 (0, 0))) ∧ Aside0 (IsS96 w w' g107 t105 x108001_2) ∧ Aside0 (Below w.heap.size w w'))
    case atStart => exact ⟨(t122), (t123), (([] : List (S62))), (.slice none 0 0), (by first | rfl | (simp; done) | (simp [*]; done)), H', ⟨Nat.le_refl _⟩, ⟨by (with_reducible repeat (first | apply qh | apply qg | apply qi)); exact HO_111001.out⟩, ⟨by first | exact Kd.R_nil _ _ _ _ _ | exact Kd.N_nil _ _ _ _ _ | exact Kd.V_nil _ _ _ _ _ | exact Kd.Q_nil _ _ _ _ _ | exact Kd.S_nil _ _ _ _ _⟩, ⟨by (with_reducible repeat (first | refine ql ?_ _ | refine qm ?_ | refine qk ?_ _)); exact BK104.out⟩, ⟨by (with_reducible repeat (first | refine ql ?_ _ | refine qm ?_ | refine qk ?_ _)); exact BK110.out⟩, ⟨by repeat (first | (with_reducible first | exact HI107.out | apply IsS96.alloc | apply IsS96.drewN | apply IsS96.drew | apply IsS96.set_1 | refine IsS96.far ?_ NB107_104.out _ | refine IsS96.far ?_ NB107_110.out _) | exact HI107.out)⟩, ⟨by repeat (first | (with_reducible first | exact HB.out | apply qc | apply qb | apply qd | refine qn ?_ (IsS96.ge HI107.out) | refine qn ?_ GE104.out | refine qn ?_ GE110.out) | exact HB.out)⟩⟩
    case round =>
     clear H'
     try clear c1
     try clear c2
     try clear p2
     try clear c3
     try clear p6
     try clear c9
     try clear c10
     try clear c12
     try clear c13
     try clear c13b0
     try clear c17
     try clear c26
     try clear c27
     try clear hcz11_0
     try clear hcz11_1
     try clear hcz11_2
     try clear hcz28_0
     try clear hcz28_1
     try clear hcz28_2
     try clear hfz11_0
     try clear hfz11_1
     try clear hfz11_2
     try clear hfz28_0
     try clear hfz28_1
     try clear hfz28_2
     try clear p2
     try clear p6
     obtain ⟨x7_2, x108001_2, x111002_2, u111002, rfl, HA, HK2, HO_111001, HO_111002, BK104, BK110, HI107, HB⟩ := hrel
     cases gk with
     | zero => exact absurd HA.out (by simp [railplankeep_Network.l1])
     | succ k2 =>
      have H := HA.out
      clear HA
      simp only [railplankeep_Network.l1] at H
      have HC31 := qo H
      clear H
      go_upto_region 9 with (fail)
      go_cut [45] (fun v45 wc => ∃ (kq : Nat) (x45_30 : Bool), v45 = .bool x45_30 ∧ Aside0 (railplankeep_Network.j2 kq (x111001_1.length : Int) x7_2 x45_30 t105 x108001_2 (wrap64 (2 + t108)) x111001_1 x111002_2 = some (r1, r2, r3)) ∧ Aside0 (kq ≤ k2) ∧ Aside0 (Kd.R k60 60 wc w.heap.size (fun _ => True) (.slice Ao29 x111001_1.length co29) x111001_1) ∧ Aside0 (Kd.R k62 62 wc w.heap.size (fun _ => True) u111002 x111002_2) ∧ Aside0 (wc.heap[gb104]? = some (.cells #[.int .i64 0, (.slice none 0 0), (.slice none 0 0)] 26 (0, 0))) ∧ Aside0 (wc.heap[gb110]? = some (.cells #[.int .i64 (wrap64 (2 + t108)), (.slice Ao29 x111001_1.length co29), u111002] 26 (0, 0))) ∧ Aside0 (IsS96 w wc g107 t105 x108001_2) ∧ Aside0 (Below w.heap.size w wc))
      case first =>
       have H := HC31.out
       clear HC31
       by_cases c32 : x7_2 > 0
       ·rw [if_pos c32] at H
        have c32b0 : decide (0 < x7_2) = true := qac c32
        clear c32
        (first | rw [c32b0] | (simp only [i64_w, i32_w]; rw [c32b0]) | skip)
        have H' := qo H
        clear H
        go_wp2
        go_meet
        case rel => exact ⟨_, (decide ((x111001_1.length : Int) > 1)), (by first | rfl | (simp; done) | (simp [*]; done)), H', ⟨by have := HK1.out; have := HK2.out; first | omega | exact Nat.le_refl _⟩, ⟨by (with_reducible repeat (first | apply qh | apply qg | apply qi)); exact HO_111001.out⟩, ⟨by (with_reducible repeat (first | apply qh | apply qg | apply qi)); exact HO_111002.out⟩, ⟨by (with_reducible repeat (first | refine ql ?_ _ | refine qm ?_ | refine qk ?_ _)); exact BK104.out⟩, ⟨by (with_reducible repeat (first | refine ql ?_ _ | refine qm ?_ | refine qk ?_ _)); exact BK110.out⟩, ⟨by repeat (first | (with_reducible first | exact HI107.out | apply IsS96.alloc | apply IsS96.drewN | apply IsS96.drew | apply IsS96.set_1 | refine IsS96.far ?_ NB107_104.out _ | refine IsS96.far ?_ NB107_110.out _) | exact HI107.out)⟩, ⟨by repeat (first | (with_reducible first | exact HB.out | apply qc | apply qb | apply qd | refine qn ?_ (IsS96.ge HI107.out) | refine qn ?_ GE104.out | refine qn ?_ GE110.out) | exact HB.out)⟩⟩
       ·rw [if_neg c32] at H
        have c32b0 : decide (0 < x7_2) = false := qad c32
        clear c32
        (first | rw [c32b0] | (simp only [i64_w, i32_w]; rw [c32b0]) | skip)
        have H' := qo H
        clear H
        go_wp2
        go_meet
        case rel => exact ⟨_, (false), (by first | rfl | (simp; done) | (simp [*]; done)), H', ⟨by have := HK1.out; have := HK2.out; first | omega | exact Nat.le_refl _⟩, ⟨by (with_reducible repeat (first | apply qh | apply qg | apply qi)); exact HO_111001.out⟩, ⟨by (with_reducible repeat (first | apply qh | apply qg | apply qi)); exact HO_111002.out⟩, ⟨by (with_reducible repeat (first | refine ql ?_ _ | refine qm ?_ | refine qk ?_ _)); exact BK104.out⟩, ⟨by (with_reducible repeat (first | refine ql ?_ _ | refine qm ?_ | refine qk ?_ _)); exact BK110.out⟩, ⟨by repeat (first | (with_reducible first | exact HI107.out | apply IsS96.alloc | apply IsS96.drewN | apply IsS96.drew | apply IsS96.set_1 | refine IsS96.far ?_ NB107_104.out _ | refine IsS96.far ?_ NB107_110.out _) | exact HI107.out)⟩, ⟨by repeat (first | (with_reducible first | exact HB.out | apply qc | apply qb | apply qd | refine qn ?_ (IsS96.ge HI107.out) | refine qn ?_ GE104.out | refine qn ?_ GE110.out) | exact HB.out)⟩⟩
      case rest =>
       clear HC31
       try clear c1
       try clear c2
       try clear p2
       try clear c3
       try clear p6
       try clear c9
       try clear c10
       try clear c12
       try clear c13
       try clear c13b0
       try clear c17
       try clear c26
       try clear c27
       try clear c32
       try clear c32b0
       try clear hcz11_0
       try clear hcz11_1
       try clear hcz11_2
       try clear hcz28_0
       try clear hcz28_1
       try clear hcz28_2
       try clear hfz11_0
       try clear hfz11_1
       try clear hfz11_2
       try clear hfz28_0
       try clear hfz28_1
       try clear hfz28_2
       try clear p2
       try clear p6
       obtain ⟨kq, x45_30, rfl, HA, HJ30, HO_111001, HO_111002, BK104, BK110, HI107, HB⟩ := hcut
       cases kq with
       | zero => exact absurd HA.out (by simp [railplankeep_Network.j2])
       | succ kj30 =>
        have H := HA.out
        clear HA
        simp only [railplankeep_Network.j2] at H
        by_cases c33 : x45_30 = true
        ·subst c33
         have H1 : ((railplankeep_Source_Next.f t105 x108001_2 6).bind fun bt124 => ((railplankeep_Source_Next.f t105 bt124.2 (x111001_1.length : Int)).bind fun bt126 => ((railplankeep_Source_Next.f t105 bt126.2 5).bind fun bt128 => ((railplankeep_Source_Next.f t105 bt128.2 (wrap64 ((x111001_1.length : Int) - 1))).bind fun bt131 => (if (x111001_1.length : Int) = 0 then (none) else ((railplankeep_Source_Next.f t105 bt131.2 (wrap64 (3 * (wrap64 (2 + t108))))).bind fun bt133 => ((railplankeep_Source_Next.f t105 bt133.2 (wrap64 (2 + t108))).bind fun bt135 => (if x111002_2.length < 2932031007402 then (railplankeep_Network.l1 kj30 (x111001_1.length : Int) (wrap64 (x7_2 - 1)) t105 bt135.2 (wrap64 (2 + t108)) x111001_1 (x111002_2 ++ [(⟨wrap64 (1 + bt124.1), bt126.1, Int.tmod (wrap64 ((wrap64 (bt126.1 + 1)) + bt131.1)) (x111001_1.length : Int), wrap64 (bt133.1 - (wrap64 (2 + t108))), wrap64 ((wrap64 (bt133.1 - (wrap64 (2 + t108)))) + bt135.1), bt128.1⟩ : S62)])) else (none))))))))) = some (r1, r2, r3) := by rw [if_pos rfl] at H; exact H
         clear H
         have H := H1
         clear H1
         replace H := Option.bind_eq_some_iff.mp H
         obtain ⟨⟨t124, t125⟩, A340, H⟩ := H
         replace H : ((railplankeep_Source_Next.f t105 t125 (x111001_1.length : Int)).bind fun bt126 => ((railplankeep_Source_Next.f t105 bt126.2 5).bind fun bt128 => ((railplankeep_Source_Next.f t105 bt128.2 (wrap64 ((x111001_1.length : Int) - 1))).bind fun bt131 => (if (x111001_1.length : Int) = 0 then (none) else ((railplankeep_Source_Next.f t105 bt131.2 (wrap64 (3 * (wrap64 (2 + t108))))).bind fun bt133 => ((railplankeep_Source_Next.f t105 bt133.2 (wrap64 (2 + t108))).bind fun bt135 => (if x111002_2.length < 2932031007402 then (railplankeep_Network.l1 kj30 (x111001_1.length : Int) (wrap64 (x7_2 - 1)) t105 bt135.2 (wrap64 (2 + t108)) x111001_1 (x111002_2 ++ [(⟨wrap64 (1 + t124), bt126.1, Int.tmod (wrap64 ((wrap64 (bt126.1 + 1)) + bt131.1)) (x111001_1.length : Int), wrap64 (bt133.1 - (wrap64 (2 + t108))), wrap64 ((wrap64 (bt133.1 - (wrap64 (2 + t108)))) + bt135.1), bt128.1⟩ : S62)])) else (none)))))))) = some (r1, r2, r3) := H
         have A34 := qo A340
         clear A340
         replace H := Option.bind_eq_some_iff.mp H
         obtain ⟨⟨t126, t127⟩, A350, H⟩ := H
         replace H : ((railplankeep_Source_Next.f t105 t127 5).bind fun bt128 => ((railplankeep_Source_Next.f t105 bt128.2 (wrap64 ((x111001_1.length : Int) - 1))).bind fun bt131 => (if (x111001_1.length : Int) = 0 then (none) else ((railplankeep_Source_Next.f t105 bt131.2 (wrap64 (3 * (wrap64 (2 + t108))))).bind fun bt133 => ((railplankeep_Source_Next.f t105 bt133.2 (wrap64 (2 + t108))).bind fun bt135 => (if x111002_2.length < 2932031007402 then (railplankeep_Network.l1 kj30 (x111001_1.length : Int) (wrap64 (x7_2 - 1)) t105 bt135.2 (wrap64 (2 + t108)) x111001_1 (x111002_2 ++ [(⟨wrap64 (1 + t124), t126, Int.tmod (wrap64 ((wrap64 (t126 + 1)) + bt131.1)) (x111001_1.length : Int), wrap64 (bt133.1 - (wrap64 (2 + t108))), wrap64 ((wrap64 (bt133.1 - (wrap64 (2 + t108)))) + bt135.1), bt128.1⟩ : S62)])) else (none))))))) = some (r1, r2, r3) := H
         have A35 := qo A350
         clear A350
         replace H := Option.bind_eq_some_iff.mp H
         obtain ⟨⟨t128, t129⟩, A360, H⟩ := H
         replace H : ((railplankeep_Source_Next.f t105 t129 (wrap64 ((x111001_1.length : Int) - 1))).bind fun bt131 => (if (x111001_1.length : Int) = 0 then (none) else ((railplankeep_Source_Next.f t105 bt131.2 (wrap64 (3 * (wrap64 (2 + t108))))).bind fun bt133 => ((railplankeep_Source_Next.f t105 bt133.2 (wrap64 (2 + t108))).bind fun bt135 => (if x111002_2.length < 2932031007402 then (railplankeep_Network.l1 kj30 (x111001_1.length : Int) (wrap64 (x7_2 - 1)) t105 bt135.2 (wrap64 (2 + t108)) x111001_1 (x111002_2 ++ [(⟨wrap64 (1 + t124), t126, Int.tmod (wrap64 ((wrap64 (t126 + 1)) + bt131.1)) (x111001_1.length : Int), wrap64 (bt133.1 - (wrap64 (2 + t108))), wrap64 ((wrap64 (bt133.1 - (wrap64 (2 + t108)))) + bt135.1), t128⟩ : S62)])) else (none)))))) = some (r1, r2, r3) := H
         have A36 := qo A360
         clear A360
         replace H := Option.bind_eq_some_iff.mp H
         obtain ⟨⟨t131, t132⟩, A370, H⟩ := H
         replace H : (if (x111001_1.length : Int) = 0 then (none) else ((railplankeep_Source_Next.f t105 t132 (wrap64 (3 * (wrap64 (2 + t108))))).bind fun bt133 => ((railplankeep_Source_Next.f t105 bt133.2 (wrap64 (2 + t108))).bind fun bt135 => (if x111002_2.length < 2932031007402 then (railplankeep_Network.l1 kj30 (x111001_1.length : Int) (wrap64 (x7_2 - 1)) t105 bt135.2 (wrap64 (2 + t108)) x111001_1 (x111002_2 ++ [(⟨wrap64 (1 + t124), t126, Int.tmod (wrap64 ((wrap64 (t126 + 1)) + t131)) (x111001_1.length : Int), wrap64 (bt133.1 - (wrap64 (2 + t108))), wrap64 ((wrap64 (bt133.1 - (wrap64 (2 + t108)))) + bt135.1), t128⟩ : S62)])) else (none))))) = some (r1, r2, r3) := H
         have A37 := qo A370
         clear A370
         by_cases c38 : (x111001_1.length : Int) = 0
         ·rw [if_pos c38] at H
          exact absurd H (by simp)
         ·rw [if_neg c38] at H
          have c38b0 : ((x111001_1.length : Int) == 0) = false := beq_eq_false_iff_ne.mpr c38
          have c38b1 : ((x111001_1.length : Int) != 0) = true := bne_iff_ne.mpr c38
          have c38b2 : ¬ (x111001_1 = []) := fun h_ => c38 (by rw [h_]; rfl)
          replace H := Option.bind_eq_some_iff.mp H
          obtain ⟨⟨t133, t134⟩, A390, H⟩ := H
          replace H : ((railplankeep_Source_Next.f t105 t134 (wrap64 (2 + t108))).bind fun bt135 => (if x111002_2.length < 2932031007402 then (railplankeep_Network.l1 kj30 (x111001_1.length : Int) (wrap64 (x7_2 - 1)) t105 bt135.2 (wrap64 (2 + t108)) x111001_1 (x111002_2 ++ [(⟨wrap64 (1 + t124), t126, Int.tmod (wrap64 ((wrap64 (t126 + 1)) + t131)) (x111001_1.length : Int), wrap64 (t133 - (wrap64 (2 + t108))), wrap64 ((wrap64 (t133 - (wrap64 (2 + t108)))) + bt135.1), t128⟩ : S62)])) else (none))) = some (r1, r2, r3) := H
          have A39 := qo A390
          clear A390
          replace H := Option.bind_eq_some_iff.mp H
          obtain ⟨⟨t135, t136⟩, A400, H⟩ := H
          replace H : (if x111002_2.length < 2932031007402 then (railplankeep_Network.l1 kj30 (x111001_1.length : Int) (wrap64 (x7_2 - 1)) t105 t136 (wrap64 (2 + t108)) x111001_1 (x111002_2 ++ [(⟨wrap64 (1 + t124), t126, Int.tmod (wrap64 ((wrap64 (t126 + 1)) + t131)) (x111001_1.length : Int), wrap64 (t133 - (wrap64 (2 + t108))), wrap64 ((wrap64 (t133 - (wrap64 (2 + t108)))) + t135), t128⟩ : S62)])) else (none)) = some (r1, r2, r3) := H
          have A40 := qo A400
          clear A400
          by_cases c41 : x111002_2.length < 2932031007402
          ·rw [if_pos c41] at H
           have LMc41 := qo c41
           clear c41
           obtain ⟨y137, hy137⟩ : ∃ y_ : List (S62), y_ = (x111002_2 ++ [(⟨wrap64 (1 + t124), t126, Int.tmod (wrap64 ((wrap64 (t126 + 1)) + t131)) (x111001_1.length : Int), wrap64 (t133 - (wrap64 (2 + t108))), wrap64 ((wrap64 (t133 - (wrap64 (2 + t108)))) + t135), t128⟩ : S62)]) := ⟨_, rfl⟩
           replace H : (railplankeep_Network.l1 kj30 (x111001_1.length : Int) (wrap64 (x7_2 - 1)) t105 t136 (wrap64 (2 + t108)) x111001_1 y137) = some (r1, r2, r3) := by first | (rw [hy137]; with_reducible exact H) | (have H2_ := (Option.bind_some _ _).symm.trans H; rw [hy137]; with_reducible exact H2_) | (have H2_ := (Option.bind_some _ _).symm.trans H; with_reducible exact H2_) | with_reducible exact H | (rw [hy137]; exact H) | exact H
           have Ny137 := qo hy137
           clear hy137
           have H' := qo H
           clear H
           try go_wp2_with (first | ((with_reducible refine gate_callee (f := 35) rfl ?_); refine goesL_ (some 49) rfl rfl Try.func35 (by kernel_rfl) rfl #[.pointer (some ⟨g107, 0, none⟩), .int .i64 6] rfl (by (try simp only [List.map_toArray, List.map_cons, List.map_nil]); first | done | rfl | (simp only [List.length_drop, List.length_take]; rfl)) ?_; (with_reducible refine (railplankeep_Source_Next.calls g107 t105 x108001_2 6 t124 t125 w _ ?side1 ?side2 A34.out).mono ?_); (case side1 => repeat (first | (with_reducible first | exact HI107.out | apply IsS96.alloc | apply IsS96.drewN | apply IsS96.drew | apply IsS96.set_1 | refine IsS96.far ?_ NB107_104.out _ | refine IsS96.far ?_ NB107_110.out _) | exact HI107.out)); (case side2 => repeat (first | (with_reducible first | exact HB.out | apply qc | apply qb | apply qd | refine qn ?_ (IsS96.ge HI107.out) | refine qn ?_ GE104.out | refine qn ?_ GE110.out) | exact HB.out)); rintro e w42 ⟨rfl, hi, hb, hk⟩; refine ⟨_, rfl, ?_⟩; have n0_ := qo (qy (Kd.R_keep (IsS96.apart (show IsS96 w _ g107 t105 x108001_2 from by repeat (first | (with_reducible first | exact HI107.out | apply IsS96.alloc | apply IsS96.drewN | apply IsS96.drew | apply IsS96.set_1 | refine IsS96.far ?_ NB107_104.out _ | refine IsS96.far ?_ NB107_110.out _) | exact HI107.out)) (by (with_reducible repeat (first | apply qh | apply qg | apply qi)); exact HO_111001.out) (by decide)) hk (fun _ h => h.2)) (fun _ h => h.1)); have n1_ := qo (qy (Kd.R_keep (IsS96.apart (show IsS96 w _ g107 t105 x108001_2 from by repeat (first | (with_reducible first | exact HI107.out | apply IsS96.alloc | apply IsS96.drewN | apply IsS96.drew | apply IsS96.set_1 | refine IsS96.far ?_ NB107_104.out _ | refine IsS96.far ?_ NB107_110.out _) | exact HI107.out)) (by (with_reducible repeat (first | apply qh | apply qg | apply qi)); exact HO_111002.out) (by decide)) hk (fun _ h => h.2)) (fun _ h => h.1)); have n2_ := qo (KeepBut.blk hk (g' := gb104) (o := .cells #[.int .i64 0, .slice none 0 0, .slice none 0 0] 26 (0, 0)) (by (with_reducible repeat (first | refine ql ?_ _ | refine qm ?_ | refine qk ?_ _)); exact BK104.out) NB104_107.out (by simp)); have n3_ := qo (KeepBut.blk hk (g' := gb110) (o := .cells #[.int .i64 (wrap64 (2 + t108)), .slice Ao29 x111001_1.length co29, u111002] 26 (0, 0)) (by (with_reducible repeat (first | refine ql ?_ _ | refine qm ?_ | refine qk ?_ _)); exact BK110.out) NB110_107.out (by simp)); have n4_ := qo (hb); have n5_ := qo (hi); clear HO_111001; clear HO_111002; clear BK104; clear BK110; clear HB; clear HI107; have HO_111001 := n0_; have HO_111002 := n1_; have BK104 := n2_; have BK110 := n3_; have HB := n4_; have HI107 := n5_; clear n0_ n1_ n2_ n3_ n4_ n5_; (try clear hb); (try clear hb2); (try clear hk); (try clear hi)) | ((with_reducible refine gate_callee (f := 35) rfl ?_); refine goesL_ (some 53) rfl rfl Try.func35 (by kernel_rfl) rfl #[.pointer (some ⟨g107, 0, none⟩), .int .i64 (x111001_1.length : Int)] rfl (by (try simp only [List.map_toArray, List.map_cons, List.map_nil]); first | done | rfl | (simp only [List.length_drop, List.length_take]; rfl)) ?_; (with_reducible refine (railplankeep_Source_Next.calls g107 t105 t125 (x111001_1.length : Int) t126 t127 w _ ?side1 ?side2 A35.out).mono ?_); (case side1 => repeat (first | (with_reducible first | exact HI107.out | apply IsS96.alloc | apply IsS96.drewN | apply IsS96.drew | apply IsS96.set_1 | refine IsS96.far ?_ NB107_104.out _ | refine IsS96.far ?_ NB107_110.out _) | exact HI107.out)); (case side2 => repeat (first | (with_reducible first | exact HB.out | apply qc | apply qb | apply qd | refine qn ?_ (IsS96.ge HI107.out) | refine qn ?_ GE104.out | refine qn ?_ GE110.out) | exact HB.out)); rintro e w43 ⟨rfl, hi, hb, hk⟩; refine ⟨_, rfl, ?_⟩; have n0_ := qo (qy (Kd.R_keep (IsS96.apart (show IsS96 w _ g107 t105 t125 from by repeat (first | (with_reducible first | exact HI107.out | apply IsS96.alloc | apply IsS96.drewN | apply IsS96.drew | apply IsS96.set_1 | refine IsS96.far ?_ NB107_104.out _ | refine IsS96.far ?_ NB107_110.out _) | exact HI107.out)) (by (with_reducible repeat (first | apply qh | apply qg | apply qi)); exact HO_111001.out) (by decide)) hk (fun _ h => h.2)) (fun _ h => h.1)); have n1_ := qo (qy (Kd.R_keep (IsS96.apart (show IsS96 w _ g107 t105 t125 from by repeat (first | (with_reducible first | exact HI107.out | apply IsS96.alloc | apply IsS96.drewN | apply IsS96.drew | apply IsS96.set_1 | refine IsS96.far ?_ NB107_104.out _ | refine IsS96.far ?_ NB107_110.out _) | exact HI107.out)) (by (with_reducible repeat (first | apply qh | apply qg | apply qi)); exact HO_111002.out) (by decide)) hk (fun _ h => h.2)) (fun _ h => h.1)); have n2_ := qo (KeepBut.blk hk (g' := gb104) (o := .cells #[.int .i64 0, .slice none 0 0, .slice none 0 0] 26 (0, 0)) (by (with_reducible repeat (first | refine ql ?_ _ | refine qm ?_ | refine qk ?_ _)); exact BK104.out) NB104_107.out (by simp)); have n3_ := qo (KeepBut.blk hk (g' := gb110) (o := .cells #[.int .i64 (wrap64 (2 + t108)), .slice Ao29 x111001_1.length co29, u111002] 26 (0, 0)) (by (with_reducible repeat (first | refine ql ?_ _ | refine qm ?_ | refine qk ?_ _)); exact BK110.out) NB110_107.out (by simp)); have n4_ := qo (hb); have n5_ := qo (hi); clear HO_111001; clear HO_111002; clear BK104; clear BK110; clear HB; clear HI107; have HO_111001 := n0_; have HO_111002 := n1_; have BK104 := n2_; have BK110 := n3_; have HB := n4_; have HI107 := n5_; clear n0_ n1_ n2_ n3_ n4_ n5_; (try clear hb); (try clear hb2); (try clear hk); (try clear hi)) | ((with_reducible refine gate_callee (f := 35) rfl ?_); refine goesL_ (some 55) rfl rfl Try.func35 (by kernel_rfl) rfl #[.pointer (some ⟨g107, 0, none⟩), .int .i64 5] rfl (by (try simp only [List.map_toArray, List.map_cons, List.map_nil]); first | done | rfl | (simp only [List.length_drop, List.length_take]; rfl)) ?_; (with_reducible refine (railplankeep_Source_Next.calls g107 t105 t127 5 t128 t129 w _ ?side1 ?side2 A36.out).mono ?_); (case side1 => repeat (first | (with_reducible first | exact HI107.out | apply IsS96.alloc | apply IsS96.drewN | apply IsS96.drew | apply IsS96.set_1 | refine IsS96.far ?_ NB107_104.out _ | refine IsS96.far ?_ NB107_110.out _) | exact HI107.out)); (case side2 => repeat (first | (with_reducible first | exact HB.out | apply qc | apply qb | apply qd | refine qn ?_ (IsS96.ge HI107.out) | refine qn ?_ GE104.out | refine qn ?_ GE110.out) | exact HB.out)); rintro e w44 ⟨rfl, hi, hb, hk⟩; refine ⟨_, rfl, ?_⟩; have n0_ := qo (qy (Kd.R_keep (IsS96.apart (show IsS96 w _ g107 t105 t127 from by repeat (first | (with_reducible first | exact HI107.out | apply IsS96.alloc | apply IsS96.drewN | apply IsS96.drew | apply IsS96.set_1 | refine IsS96.far ?_ NB107_104.out _ | refine IsS96.far ?_ NB107_110.out _) | exact HI107.out)) (by (with_reducible repeat (first | apply qh | apply qg | apply qi)); exact HO_111001.out) (by decide)) hk (fun _ h => h.2)) (fun _ h => h.1)); have n1_ := qo (qy (Kd.R_keep (IsS96.apart (show IsS96 w _ g107 t105 t127 from by repeat (first | (with_reducible first | exact HI107.out | apply IsS96.alloc | apply IsS96.drewN | apply IsS96.drew | apply IsS96.set_1 | refine IsS96.far ?_ NB107_104.out _ | refine IsS96.far ?_ NB107_110.out _) | exact HI107.out)) (by (with_reducible repeat (first | apply qh | apply qg | apply qi)); exact HO_111002.out) (by decide)) hk (fun _ h => h.2)) (fun _ h => h.1)); have n2_ := qo (KeepBut.blk hk (g' := gb104) (o := .cells #[.int .i64 0, .slice none 0 0, .slice none 0 0] 26 (0, 0)) (by (with_reducible repeat (first | refine ql ?_ _ | refine qm ?_ | refine qk ?_ _)); exact BK104.out) NB104_107.out (by simp)); have n3_ := qo (KeepBut.blk hk (g' := gb110) (o := .cells #[.int .i64 (wrap64 (2 + t108)), .slice Ao29 x111001_1.length co29, u111002] 26 (0, 0)) (by (with_reducible repeat (first | refine ql ?_ _ | refine qm ?_ | refine qk ?_ _)); exact BK110.out) NB110_107.out (by simp)); have n4_ := qo (hb); have n5_ := qo (hi); clear HO_111001; clear HO_111002; clear BK104; clear BK110; clear HB; clear HI107; have HO_111001 := n0_; have HO_111002 := n1_; have BK104 := n2_; have BK110 := n3_; have HB := n4_; have HI107 := n5_; clear n0_ n1_ n2_ n3_ n4_ n5_; (try clear hb); (try clear hb2); (try clear hk); (try clear hi)) | ((with_reducible refine gate_dst (N := 8) rfl ?_); refine box_event ?hg (N := 8) ?hd (cs := #[.int .i64 0, .int .i64 0, .int .i64 0, .int .i64 0, .int .i64 0, .int .i64 0]) (t := 62) ?hr ?_; (case hd => rfl); (case hg => rfl); (case hr => first | (go_simp; done) | (go_simp; rfl)); intro gb130 hg w45 hbox hb; have n0_ := qo (qae (by (with_reducible repeat (first | apply qh | apply qg | apply qi)); exact HO_111001.out) hb); have n1_ := qo (qae (Kd.R_elderB (by (with_reducible repeat (first | apply qh | apply qg | apply qi)); exact HO_111002.out) gb130 (Nat.le_of_eq hg.symm)) hb); have n2_ := qo (qaa (g := gb104) (o := .cells #[.int .i64 0, .slice none 0 0, .slice none 0 0] 26 (0, 0)) (by (with_reducible repeat (first | refine ql ?_ _ | refine qm ?_ | refine qk ?_ _)); exact BK104.out) hb); have n3_ := qo (qaa (g := gb110) (o := .cells #[.int .i64 (wrap64 (2 + t108)), .slice Ao29 x111001_1.length co29, u111002] 26 (0, 0)) (by (with_reducible repeat (first | refine ql ?_ _ | refine qm ?_ | refine qk ?_ _)); exact BK110.out) hb); have n4_ := qo (IsS96.below (by repeat (first | (with_reducible first | exact HI107.out | apply IsS96.alloc | apply IsS96.drewN | apply IsS96.drew | apply IsS96.set_1 | refine IsS96.far ?_ NB107_104.out _ | refine IsS96.far ?_ NB107_110.out _) | exact HI107.out)) hb); have n5_ := qo (qt (by repeat (first | (with_reducible first | exact HB.out | apply qc | apply qb | apply qd | refine qn ?_ (IsS96.ge HI107.out) | refine qn ?_ GE104.out | refine qn ?_ GE110.out) | exact HB.out)) hb); have n6_ := qo (hbox); have n7_ := qo ((by rw [hg]; exact (qu (by repeat (first | (with_reducible first | exact HB.out | apply qc | apply qb | apply qd | refine qn ?_ (IsS96.ge HI107.out) | refine qn ?_ GE104.out | refine qn ?_ GE110.out) | exact HB.out))) : w.heap.size ≤ gb130)); have n8_ := qo ((by rw [hg]; exact (qu (by repeat (first | (with_reducible first | exact HB.out | apply qc | apply qb | apply qd | refine qn ?_ (IsS96.ge HI107.out) | refine qn ?_ GE104.out | refine qn ?_ GE110.out) | exact HB.out))) : w.heap.size ≤ gb130)); have n9_ := qo ((by rw [hg]; exact qp (blk_lt (g := gb104) (o := .cells #[.int .i64 0, .slice none 0 0, .slice none 0 0] 26 (0, 0)) (by (with_reducible repeat (first | refine ql ?_ _ | refine qm ?_ | refine qk ?_ _)); exact BK104.out)) : gb104 ≠ gb130)); have n10_ := qo ((by rw [hg]; exact Nat.ne_of_gt (blk_lt (g := gb104) (o := .cells #[.int .i64 0, .slice none 0 0, .slice none 0 0] 26 (0, 0)) (by (with_reducible repeat (first | refine ql ?_ _ | refine qm ?_ | refine qk ?_ _)); exact BK104.out)) : gb130 ≠ gb104)); have n11_ := qo ((by rw [hg]; exact qp (blk_lt (g := gb110) (o := .cells #[.int .i64 (wrap64 (2 + t108)), .slice Ao29 x111001_1.length co29, u111002] 26 (0, 0)) (by (with_reducible repeat (first | refine ql ?_ _ | refine qm ?_ | refine qk ?_ _)); exact BK110.out)) : gb110 ≠ gb130)); have n12_ := qo ((by rw [hg]; exact Nat.ne_of_gt (blk_lt (g := gb110) (o := .cells #[.int .i64 (wrap64 (2 + t108)), .slice Ao29 x111001_1.length co29, u111002] 26 (0, 0)) (by (with_reducible repeat (first | refine ql ?_ _ | refine qm ?_ | refine qk ?_ _)); exact BK110.out)) : gb130 ≠ gb110)); have n13_ := qo ((by rw [hg]; exact qp (IsS96.lt (show IsS96 w _ g107 t105 t129 from by repeat (first | (with_reducible first | exact HI107.out | apply IsS96.alloc | apply IsS96.drewN | apply IsS96.drew | apply IsS96.set_1 | refine IsS96.far ?_ NB107_104.out _ | refine IsS96.far ?_ NB107_110.out _) | exact HI107.out))) : g107 ≠ gb130)); have n14_ := qo ((by rw [hg]; exact Nat.ne_of_gt (IsS96.lt (show IsS96 w _ g107 t105 t129 from by repeat (first | (with_reducible first | exact HI107.out | apply IsS96.alloc | apply IsS96.drewN | apply IsS96.drew | apply IsS96.set_1 | refine IsS96.far ?_ NB107_104.out _ | refine IsS96.far ?_ NB107_110.out _) | exact HI107.out))) : gb130 ≠ g107)); clear HO_111001; clear HO_111002; clear BK104; clear BK110; clear HI107; clear HB; have HO_111001 := n0_; have HO_111002 := n1_; have BK104 := n2_; have BK110 := n3_; have HI107 := n4_; have HB := n5_; have BK130 := n6_; have GW130 := n7_; have GE130 := n8_; have NB104_130 := n9_; have NB130_104 := n10_; have NB110_130 := n11_; have NB130_110 := n12_; have NB107_130 := n13_; have NB130_107 := n14_; clear n0_ n1_ n2_ n3_ n4_ n5_ n6_ n7_ n8_ n9_ n10_ n11_ n12_ n13_ n14_; clear hb hbox hg; have hnb46 := NB130_104.out; have hnc46 := NB104_130.out; have hnb47 := NB130_110.out; have hnc47 := NB110_130.out; have hnb48 := NB130_107.out; have hnc48 := NB107_130.out; have hcz49_0 : w45.cell? ⟨gb130, 0, none⟩ = some (.int .i64 0) := (qe BK130.out 0).trans rfl; have hcz49_1 : w45.cell? ⟨gb130, 1, none⟩ = some (.int .i64 0) := (qe BK130.out 1).trans rfl; have hcz49_2 : w45.cell? ⟨gb130, 2, none⟩ = some (.int .i64 0) := (qe BK130.out 2).trans rfl; have hcz49_3 : w45.cell? ⟨gb130, 3, none⟩ = some (.int .i64 0) := (qe BK130.out 3).trans rfl; have hcz49_4 : w45.cell? ⟨gb130, 4, none⟩ = some (.int .i64 0) := (qe BK130.out 4).trans rfl; have hcz49_5 : w45.cell? ⟨gb130, 5, none⟩ = some (.int .i64 0) := (qe BK130.out 5).trans rfl; have hfz49_0 := qf BK130.out 0; have hfz49_1 := qf BK130.out 1; have hfz49_2 := qf BK130.out 2; have hfz49_3 := qf BK130.out 3; have hfz49_4 := qf BK130.out 4; have hfz49_5 := qf BK130.out 5))
           have n0_ : Aside0 (Kd.R k60 60 ((((((w45.setCell ⟨gb130, 0, none⟩ (.int .i64 (wrap64 (1 + t124)))).setCell ⟨gb130, 1, none⟩ (.int .i64 t126)).setCell ⟨gb130, 2, none⟩ (.int .i64 0)).setCell ⟨gb130, 3, none⟩ (.int .i64 0)).setCell ⟨gb130, 4, none⟩ (.int .i64 0)).setCell ⟨gb130, 5, none⟩ (.int .i64 t128)) w.heap.size (fun _ => True) (.slice Ao29 x111001_1.length co29) x111001_1) := ⟨by (with_reducible repeat (first | apply qh | apply qg | apply qi)); exact qy (qz (p := ⟨gb130, 5, none⟩) (qz (p := ⟨gb130, 4, none⟩) (qz (p := ⟨gb130, 3, none⟩) (qz (p := ⟨gb130, 2, none⟩) (qz (p := ⟨gb130, 1, none⟩) (qz (p := ⟨gb130, 0, none⟩) (qaf HO_111001.out BK130.out (by decide)) (fun _ hk => hk.2) (.int .i64 (wrap64 (1 + t124)))) (fun _ hk => hk.2) (.int .i64 t126)) (fun _ hk => hk.2) (.int .i64 0)) (fun _ hk => hk.2) (.int .i64 0)) (fun _ hk => hk.2) (.int .i64 0)) (fun _ hk => hk.2) (.int .i64 t128)) (fun _ hk => trivial)⟩
           have n1_ : Aside0 (Kd.R k62 62 ((((((w45.setCell ⟨gb130, 0, none⟩ (.int .i64 (wrap64 (1 + t124)))).setCell ⟨gb130, 1, none⟩ (.int .i64 t126)).setCell ⟨gb130, 2, none⟩ (.int .i64 0)).setCell ⟨gb130, 3, none⟩ (.int .i64 0)).setCell ⟨gb130, 4, none⟩ (.int .i64 0)).setCell ⟨gb130, 5, none⟩ (.int .i64 t128)) w.heap.size (fun k_ => k_ ≠ gb130) u111002 x111002_2) := ⟨by (with_reducible repeat (first | apply qh | apply qg | apply qi)); exact qy (qz (p := ⟨gb130, 5, none⟩) (qz (p := ⟨gb130, 4, none⟩) (qz (p := ⟨gb130, 3, none⟩) (qz (p := ⟨gb130, 2, none⟩) (qz (p := ⟨gb130, 1, none⟩) (qz (p := ⟨gb130, 0, none⟩) (qy HO_111002.out (fun k_ hk => (⟨hk, hk.2⟩ : _ ∧ k_ ≠ gb130))) (fun _ hk => hk.2) (.int .i64 (wrap64 (1 + t124)))) (fun _ hk => hk.2) (.int .i64 t126)) (fun _ hk => hk.2) (.int .i64 0)) (fun _ hk => hk.2) (.int .i64 0)) (fun _ hk => hk.2) (.int .i64 0)) (fun _ hk => hk.2) (.int .i64 t128)) (fun _ hk => hk.1.2)⟩
           have n2_ : Aside0 (((((((w45.setCell ⟨gb130, 0, none⟩ (.int .i64 (wrap64 (1 + t124)))).setCell ⟨gb130, 1, none⟩ (.int .i64 t126)).setCell ⟨gb130, 2, none⟩ (.int .i64 0)).setCell ⟨gb130, 3, none⟩ (.int .i64 0)).setCell ⟨gb130, 4, none⟩ (.int .i64 0)).setCell ⟨gb130, 5, none⟩ (.int .i64 t128)).heap[gb104]? = some (.cells #[.int .i64 0, .slice none 0 0, .slice none 0 0] 26 (0, 0))) := ⟨by (with_reducible repeat (first | refine ql ?_ _ | refine qm ?_ | refine qk ?_ _)); refine qam ?_ NB104_130.out _; (with_reducible repeat (first | refine ql ?_ _ | refine qm ?_ | refine qk ?_ _)); refine qam ?_ NB104_130.out _; (with_reducible repeat (first | refine ql ?_ _ | refine qm ?_ | refine qk ?_ _)); refine qam ?_ NB104_130.out _; (with_reducible repeat (first | refine ql ?_ _ | refine qm ?_ | refine qk ?_ _)); refine qam ?_ NB104_130.out _; (with_reducible repeat (first | refine ql ?_ _ | refine qm ?_ | refine qk ?_ _)); refine qam ?_ NB104_130.out _; (with_reducible repeat (first | refine ql ?_ _ | refine qm ?_ | refine qk ?_ _)); refine qam ?_ NB104_130.out _; (with_reducible repeat (first | refine ql ?_ _ | refine qm ?_ | refine qk ?_ _)); exact BK104.out⟩
           have n3_ : Aside0 (((((((w45.setCell ⟨gb130, 0, none⟩ (.int .i64 (wrap64 (1 + t124)))).setCell ⟨gb130, 1, none⟩ (.int .i64 t126)).setCell ⟨gb130, 2, none⟩ (.int .i64 0)).setCell ⟨gb130, 3, none⟩ (.int .i64 0)).setCell ⟨gb130, 4, none⟩ (.int .i64 0)).setCell ⟨gb130, 5, none⟩ (.int .i64 t128)).heap[gb110]? = some (.cells #[.int .i64 (wrap64 (2 + t108)), .slice Ao29 x111001_1.length co29, u111002] 26 (0, 0))) := ⟨by (with_reducible repeat (first | refine ql ?_ _ | refine qm ?_ | refine qk ?_ _)); refine qam ?_ NB110_130.out _; (with_reducible repeat (first | refine ql ?_ _ | refine qm ?_ | refine qk ?_ _)); refine qam ?_ NB110_130.out _; (with_reducible repeat (first | refine ql ?_ _ | refine qm ?_ | refine qk ?_ _)); refine qam ?_ NB110_130.out _; (with_reducible repeat (first | refine ql ?_ _ | refine qm ?_ | refine qk ?_ _)); refine qam ?_ NB110_130.out _; (with_reducible repeat (first | refine ql ?_ _ | refine qm ?_ | refine qk ?_ _)); refine qam ?_ NB110_130.out _; (with_reducible repeat (first | refine ql ?_ _ | refine qm ?_ | refine qk ?_ _)); refine qam ?_ NB110_130.out _; (with_reducible repeat (first | refine ql ?_ _ | refine qm ?_ | refine qk ?_ _)); exact BK110.out⟩
           have n4_ : Aside0 (((((((w45.setCell ⟨gb130, 0, none⟩ (.int .i64 (wrap64 (1 + t124)))).setCell ⟨gb130, 1, none⟩ (.int .i64 t126)).setCell ⟨gb130, 2, none⟩ (.int .i64 0)).setCell ⟨gb130, 3, none⟩ (.int .i64 0)).setCell ⟨gb130, 4, none⟩ (.int .i64 0)).setCell ⟨gb130, 5, none⟩ (.int .i64 t128)).heap[gb130]? = some (.cells #[.int .i64 (wrap64 (1 + t124)), .int .i64 t126, .int .i64 0, .int .i64 0, .int .i64 0, .int .i64 t128] 62 (0, 0))) := ⟨by (with_reducible repeat (first | refine ql ?_ _ | refine qm ?_ | refine qk ?_ _)); refine qal (cs := #[.int .i64 (wrap64 (1 + t124)), .int .i64 t126, .int .i64 0, .int .i64 0, .int .i64 0, .int .i64 0]) ?_ 5 _ rfl; (with_reducible repeat (first | refine ql ?_ _ | refine qm ?_ | refine qk ?_ _)); refine qal (cs := #[.int .i64 (wrap64 (1 + t124)), .int .i64 t126, .int .i64 0, .int .i64 0, .int .i64 0, .int .i64 0]) ?_ 4 _ rfl; (with_reducible repeat (first | refine ql ?_ _ | refine qm ?_ | refine qk ?_ _)); refine qal (cs := #[.int .i64 (wrap64 (1 + t124)), .int .i64 t126, .int .i64 0, .int .i64 0, .int .i64 0, .int .i64 0]) ?_ 3 _ rfl; (with_reducible repeat (first | refine ql ?_ _ | refine qm ?_ | refine qk ?_ _)); refine qal (cs := #[.int .i64 (wrap64 (1 + t124)), .int .i64 t126, .int .i64 0, .int .i64 0, .int .i64 0, .int .i64 0]) ?_ 2 _ rfl; (with_reducible repeat (first | refine ql ?_ _ | refine qm ?_ | refine qk ?_ _)); refine qal (cs := #[.int .i64 (wrap64 (1 + t124)), .int .i64 0, .int .i64 0, .int .i64 0, .int .i64 0, .int .i64 0]) ?_ 1 _ rfl; (with_reducible repeat (first | refine ql ?_ _ | refine qm ?_ | refine qk ?_ _)); refine qal (cs := #[.int .i64 0, .int .i64 0, .int .i64 0, .int .i64 0, .int .i64 0, .int .i64 0]) ?_ 0 _ rfl; (with_reducible repeat (first | refine ql ?_ _ | refine qm ?_ | refine qk ?_ _)); exact BK130.out⟩
           have n5_ : Aside0 (IsS96 w ((((((w45.setCell ⟨gb130, 0, none⟩ (.int .i64 (wrap64 (1 + t124)))).setCell ⟨gb130, 1, none⟩ (.int .i64 t126)).setCell ⟨gb130, 2, none⟩ (.int .i64 0)).setCell ⟨gb130, 3, none⟩ (.int .i64 0)).setCell ⟨gb130, 4, none⟩ (.int .i64 0)).setCell ⟨gb130, 5, none⟩ (.int .i64 t128)) g107 t105 t129) := ⟨by repeat (first | (with_reducible first | exact HI107.out | apply IsS96.alloc | apply IsS96.drewN | apply IsS96.drew | apply IsS96.set_1 | refine IsS96.far ?_ NB107_104.out _ | refine IsS96.far ?_ NB107_110.out _ | refine IsS96.far ?_ NB107_130.out _) | exact HI107.out)⟩
           have n6_ : Aside0 (Below w.heap.size w ((((((w45.setCell ⟨gb130, 0, none⟩ (.int .i64 (wrap64 (1 + t124)))).setCell ⟨gb130, 1, none⟩ (.int .i64 t126)).setCell ⟨gb130, 2, none⟩ (.int .i64 0)).setCell ⟨gb130, 3, none⟩ (.int .i64 0)).setCell ⟨gb130, 4, none⟩ (.int .i64 0)).setCell ⟨gb130, 5, none⟩ (.int .i64 t128))) := ⟨by repeat (first | (with_reducible first | exact HB.out | apply qc | apply qb | apply qd | refine qn ?_ (IsS96.ge HI107.out) | refine qn ?_ GE104.out | refine qn ?_ GE110.out | refine qn ?_ GE130.out) | exact HB.out)⟩
           (try clear HO_111001)
           (try clear HO_111002)
           (try clear BK104)
           (try clear BK110)
           (try clear BK130)
           (try clear HI107)
           (try clear HB)
           generalize ((((((w45.setCell ⟨gb130, 0, none⟩ (.int .i64 (wrap64 (1 + t124)))).setCell ⟨gb130, 1, none⟩ (.int .i64 t126)).setCell ⟨gb130, 2, none⟩ (.int .i64 0)).setCell ⟨gb130, 3, none⟩ (.int .i64 0)).setCell ⟨gb130, 4, none⟩ (.int .i64 0)).setCell ⟨gb130, 5, none⟩ (.int .i64 t128)) = w50 at n0_ n1_ n2_ n3_ n4_ n5_ n6_ ⊢
           have HO_111001 := n0_
           have HO_111002 := n1_
           have BK104 := n2_
           have BK110 := n3_
           have BK130 := n4_
           have HI107 := n5_
           have HB := n6_
           clear n0_ n1_ n2_ n3_ n4_ n5_ n6_
           have n0_ := qo (qi HO_111001.out)
           have n1_ := qo (qi HO_111002.out)
           have n2_ := qo (qm BK104.out)
           have n3_ := qo (qm BK110.out)
           have n4_ := qo (qm BK130.out)
           have n5_ := qo (IsS96.drew HI107.out)
           have n6_ := qo (qd HB.out)
           clear HO_111001
           clear HO_111002
           clear BK104
           clear BK110
           clear BK130
           clear HI107
           clear HB
           have HO_111001 := n0_
           have HO_111002 := n1_
           have BK104 := n2_
           have BK110 := n3_
           have BK130 := n4_
           have HI107 := n5_
           have HB := n6_
           clear n0_ n1_ n2_ n3_ n4_ n5_ n6_
           refine start_ (n := 12) (S := fun w' => w'.cell? ⟨gb130, 0, none⟩ = some (.int .i64 (wrap64 (1 + t124))) ∧ w'.cell? ⟨gb130, 1, none⟩ = some (.int .i64 t126) ∧ w'.cell? ⟨gb130, 2, none⟩ = some (.int .i64 0) ∧ w'.cell? ⟨gb130, 3, none⟩ = some (.int .i64 0) ∧ w'.cell? ⟨gb130, 4, none⟩ = some (.int .i64 0) ∧ w'.cell? ⟨gb130, 5, none⟩ = some (.int .i64 t128)) (ds := [11]) #[false, false, false, false, false, false, false, false, false, false, false, false] (by kernel_rfl) rfl rfl ⟨(qe BK130.out 0).trans rfl, (qe BK130.out 1).trans rfl, (qe BK130.out 2).trans rfl, (qe BK130.out 3).trans rfl, (qe BK130.out 4).trans rfl, (qe BK130.out 5).trans rfl⟩ (fun hHeld => ?_); refine with_tabW railplankeep_Network.tab12 railplankeep_Network.bits12 (fun HT_ HW_ => ?_)
           generalize w50.drew = w51 at HO_111001 HO_111002 BK104 BK110 BK130 HI107 HB hHeld ⊢
           refine pure_ (i := 0) (N := some 57) (v := ?_) (a' := ?_) #[true, false, false, false, false, false, false, false, false, false, false, false] rfl rfl (any_of HT_.out (by kernel_rfl)) (fun _ _ _ h => h) (Or.inl ⟨by rfl, ?_⟩) ?_ ?_
           rotate_left
           ·intro w'
            go_simp
            with_reducible rfl
           rotate_left
           ·simp only [Act.put, List.setIfInBounds_toArray, List.set_cons_zero, List.set_cons_succ, i64_w, i32_w]
            rfl
           refine pure_ (i := 3) (N := some 60) (v := ?_) (a' := ?_) #[true, false, false, true, false, false, false, false, false, false, false, false] rfl rfl (any_of HT_.out (by kernel_rfl)) (fun _ _ _ h => h) (Or.inl ⟨by rfl, ?_⟩) ?_ ?_
           rotate_left
           ·intro w'
            go_simp
            with_reducible rfl
           rotate_left
           ·simp only [Act.put, List.setIfInBounds_toArray, List.set_cons_zero, List.set_cons_succ, i64_w, i32_w]
            rfl
           refine pure_ (i := 4) (N := some 61) (v := ?_) (a' := ?_) #[true, false, false, true, true, false, false, false, false, false, false, false] rfl rfl (any_of HT_.out (by kernel_rfl)) (fun _ _ _ h => h) (Or.inl ⟨by rfl, ?_⟩) ?_ ?_
           rotate_left
           ·intro w'
            go_simp
            with_reducible rfl
           rotate_left
           ·simp only [Act.put, List.setIfInBounds_toArray, List.set_cons_zero, List.set_cons_succ, i64_w, i32_w]
            rfl
           refine pure_ (i := 5) (N := some 62) (v := ?_) (a' := ?_) #[true, false, false, true, true, true, false, false, false, false, false, false] rfl rfl (any_of HT_.out (by kernel_rfl)) (fun _ _ _ h => h) (Or.inl ⟨by rfl, ?_⟩) ?_ ?_
           rotate_left
           ·intro w'
            go_simp
            with_reducible rfl
           rotate_left
           ·simp only [Act.put, List.setIfInBounds_toArray, List.set_cons_zero, List.set_cons_succ, i64_w, i32_w]
            rfl
           refine pure_ (i := 8) (N := some 65) (v := ?_) (a' := ?_) #[true, false, false, true, true, true, false, false, true, false, false, false] rfl rfl (any_of HT_.out (by kernel_rfl)) (fun _ _ _ h => h) (Or.inl ⟨by rfl, ?_⟩) ?_ ?_
           rotate_left
           ·intro w'
            go_simp
            with_reducible rfl
           rotate_left
           ·simp only [Act.put, List.setIfInBounds_toArray, List.set_cons_zero, List.set_cons_succ, i64_w, i32_w]
            rfl
           refine take_ (i := 1) (N := some 58) (v := ?_) (a' := ?_) #[true, true, false, true, true, true, false, false, true, false, false, false] rfl rfl (take_ofW HT_.out HW_.out (by kernel_rfl)) (fun _ _ _ h => h) (Or.inl ⟨by rfl, ?_⟩) hHeld ?_ ?_
           rotate_left
           ·rintro w' ⟨s0, s1, s2, s3, s4, s5⟩
            go_simp
            with_reducible rfl
           rotate_left
           ·simp only [Act.put, List.setIfInBounds_toArray, List.set_cons_zero, List.set_cons_succ, i64_w, i32_w]
            rfl
           refine pure_ (i := 2) (N := some 59) (v := ?_) (a' := ?_) #[true, true, true, true, true, true, false, false, true, false, false, false] rfl rfl (any_of HT_.out (by kernel_rfl)) (fun _ _ _ h => h) (Or.inl ⟨by rfl, ?_⟩) ?_ ?_
           rotate_left
           ·intro w'
            go_simp
            with_reducible rfl
           rotate_left
           ·simp only [Act.put, List.setIfInBounds_toArray, List.set_cons_zero, List.set_cons_succ, i64_w, i32_w]
            rfl
           refine one_ (i := 6) (N := some 63) #[true, true, true, true, true, true, true, false, true, false, false, false] rfl rfl (one_of HT_.out (by kernel_rfl)) (by decide) (fun K hK => ?_)
           refine goes_ Try.func35 (by kernel_rfl) rfl #[.pointer (some ⟨g107, 0, none⟩), .int .i64 (wrap64 ((x111001_1.length : Int) - 1))] (by rfl) rfl rfl (by (try simp only [List.map_toArray, List.map_cons, List.map_nil]); first | done | rfl | (simp only [List.length_drop, List.length_take]; rfl)) ?_
           with_reducible refine (railplankeep_Source_Next.calls g107 t105 t129 (wrap64 ((x111001_1.length : Int) - 1)) t131 t132 w _ ?side1 ?side2 A37.out).mono ?_
           (case side1 => repeat (first | (with_reducible first | exact HI107.out | apply IsS96.alloc | apply IsS96.drewN | apply IsS96.drew | apply IsS96.set_1 | refine IsS96.far ?_ NB107_104.out _ | refine IsS96.far ?_ NB107_110.out _ | refine IsS96.far ?_ NB107_130.out _) | exact HI107.out))
           (case side2 => repeat (first | (with_reducible first | exact HB.out | apply qc | apply qb | apply qd | refine qn ?_ (IsS96.ge HI107.out) | refine qn ?_ GE104.out | refine qn ?_ GE110.out | refine qn ?_ GE130.out) | exact HB.out))
           rintro e w52 ⟨rfl, hi, hb, hk⟩
           refine ⟨_, rfl, ?_⟩
           have n0_ := qo (qy (Kd.R_keep (IsS96.apart (show IsS96 w _ g107 t105 t129 from by repeat (first | (with_reducible first | exact HI107.out | apply IsS96.alloc | apply IsS96.drewN | apply IsS96.drew | apply IsS96.set_1 | refine IsS96.far ?_ NB107_104.out _ | refine IsS96.far ?_ NB107_110.out _ | refine IsS96.far ?_ NB107_130.out _) | exact HI107.out)) (by (with_reducible repeat (first | apply qh | apply qg | apply qi)); exact HO_111001.out) (by decide)) hk (fun _ h => h.2)) (fun _ h => h.1))
           have n1_ := qo (qy (Kd.R_keep (IsS96.apart (show IsS96 w _ g107 t105 t129 from by repeat (first | (with_reducible first | exact HI107.out | apply IsS96.alloc | apply IsS96.drewN | apply IsS96.drew | apply IsS96.set_1 | refine IsS96.far ?_ NB107_104.out _ | refine IsS96.far ?_ NB107_110.out _ | refine IsS96.far ?_ NB107_130.out _) | exact HI107.out)) (by (with_reducible repeat (first | apply qh | apply qg | apply qi)); exact HO_111002.out) (by decide)) hk (fun _ h => h.2)) (fun _ h => h.1))
           have n2_ := qo (KeepBut.blk hk (g' := gb104) (o := .cells #[.int .i64 0, .slice none 0 0, .slice none 0 0] 26 (0, 0)) (by (with_reducible repeat (first | refine ql ?_ _ | refine qm ?_ | refine qk ?_ _)); exact BK104.out) NB104_107.out (by simp))
           have n3_ := qo (KeepBut.blk hk (g' := gb110) (o := .cells #[.int .i64 (wrap64 (2 + t108)), .slice Ao29 x111001_1.length co29, u111002] 26 (0, 0)) (by (with_reducible repeat (first | refine ql ?_ _ | refine qm ?_ | refine qk ?_ _)); exact BK110.out) NB110_107.out (by simp))
           have n4_ := qo (KeepBut.blk hk (g' := gb130) (o := .cells #[.int .i64 (wrap64 (1 + t124)), .int .i64 t126, .int .i64 0, .int .i64 0, .int .i64 0, .int .i64 t128] 62 (0, 0)) (by (with_reducible repeat (first | refine ql ?_ _ | refine qm ?_ | refine qk ?_ _)); exact BK130.out) NB130_107.out (by simp))
           have n5_ := qo (hb)
           have n6_ := qo (hi)
           clear HO_111001
           clear HO_111002
           clear BK104
           clear BK110
           clear BK130
           clear HB
           clear HI107
           have HO_111001 := n0_
           have HO_111002 := n1_
           have BK104 := n2_
           have BK110 := n3_
           have BK130 := n4_
           have HB := n5_
           have HI107 := n6_
           clear n0_ n1_ n2_ n3_ n4_ n5_ n6_
           (try clear hb)
           (try clear hb2)
           (try clear hk)
           (try clear hi)
           refine hK.out _ _ ⟨(qe BK130.out 0).trans rfl, (qe BK130.out 1).trans rfl, (qe BK130.out 2).trans rfl, (qe BK130.out 3).trans rfl, (qe BK130.out 4).trans rfl, (qe BK130.out 5).trans rfl⟩ (fun hHeld => ?_)
           clear hK K
           refine norm_ (a' := ?_) ?_ ?_
           rotate_left
           ·show Act.put _ (some 63) _ = _
            simp only [Act.put, List.setIfInBounds_toArray, List.set_cons_zero, List.set_cons_succ, i64_w, i32_w]
            rfl
           refine pure_ (i := 7) (N := some 64) (v := ?_) (a' := ?_) #[true, true, true, true, true, true, true, true, true, false, false, false] rfl rfl (any_of HT_.out (by kernel_rfl)) (fun _ _ _ h => h) (Or.inl ⟨by rfl, ?_⟩) ?_ ?_
           rotate_left
           ·intro w'
            go_simp
            with_reducible rfl
           rotate_left
           ·simp only [Act.put, List.setIfInBounds_toArray, List.set_cons_zero, List.set_cons_succ, i64_w, i32_w]
            rfl
           refine pure_ (i := 9) (N := some 66) (v := ?_) (a' := ?_) #[true, true, true, true, true, true, true, true, true, true, false, false] rfl rfl (any_of HT_.out (by kernel_rfl)) (fun _ _ _ h => h) (Or.inl ⟨by rfl, ?_⟩) ?_ ?_
           rotate_left
           ·intro w'
            go_simp
            with_reducible rfl
           rotate_left
           ·simp only [Act.put, List.setIfInBounds_toArray, List.set_cons_zero, List.set_cons_succ, i64_w, i32_w]
            rfl
           refine pure_ (i := 10) (N := some 67) (v := ?_) (a' := ?_) #[true, true, true, true, true, true, true, true, true, true, true, false] rfl rfl (any_of HT_.out (by kernel_rfl)) (fun _ _ _ h => h) (Or.inl ⟨by rfl, ?_⟩) ?_ ?_
           rotate_left
           ·intro w'
            go_simp
            with_reducible rfl
           rotate_left
           ·simp only [Act.put, List.setIfInBounds_toArray, List.set_cons_zero, List.set_cons_succ, i64_w, i32_w]
            rfl
           refine last_ (i := 11) (N := none) #[true, true, true, true, true, true, true, true, true, true, true, true] rfl rfl (one_of HT_.out (by kernel_rfl)) (by decide) (fun K hK => ?_)
           have hs53 : w52.cell? ⟨gb130, 2, none⟩ = some (.int .i64 0) := (qe BK130.out 2).trans rfl
           have hfs53 := qf BK130.out 2
           have hns53_0 := NB104_130.out
           have hns53_1 := NB110_130.out
           have hms53_0 := NB130_104.out
           have hms53_1 := NB130_110.out
           refine skip_ (w1 := ?_) (by rfl) rfl ?_ ?_
           rotate_left
           ·go_simp
            rfl
           refine hK.out _ _ ?_
           clear hK K
           refine done_ (done_of HT_.out (by kernel_rfl)) ?_
           try go_wp2
           have n0_ : Aside0 (Kd.R k60 60 (w52.setCell ⟨gb130, 2, none⟩ (.int .i64 (Int.tmod (wrap64 ((wrap64 (t126 + 1)) + t131)) (x111001_1.length : Int)))) w.heap.size (fun _ => True) (.slice Ao29 x111001_1.length co29) x111001_1) := ⟨by (with_reducible repeat (first | apply qh | apply qg | apply qi)); exact qy (qz (p := ⟨gb130, 2, none⟩) (qaf HO_111001.out BK130.out (by decide)) (fun _ hk => hk.2) (.int .i64 (Int.tmod (wrap64 ((wrap64 (t126 + 1)) + t131)) (x111001_1.length : Int)))) (fun _ hk => trivial)⟩
           have n1_ : Aside0 (Kd.R k62 62 (w52.setCell ⟨gb130, 2, none⟩ (.int .i64 (Int.tmod (wrap64 ((wrap64 (t126 + 1)) + t131)) (x111001_1.length : Int)))) w.heap.size (fun k_ => k_ ≠ gb130) u111002 x111002_2) := ⟨by (with_reducible repeat (first | apply qh | apply qg | apply qi)); exact qy (qz (p := ⟨gb130, 2, none⟩) (qy HO_111002.out (fun k_ hk => (⟨hk, hk⟩ : _ ∧ k_ ≠ gb130))) (fun _ hk => hk.2) (.int .i64 (Int.tmod (wrap64 ((wrap64 (t126 + 1)) + t131)) (x111001_1.length : Int)))) (fun _ hk => hk.1)⟩
           have n2_ : Aside0 ((w52.setCell ⟨gb130, 2, none⟩ (.int .i64 (Int.tmod (wrap64 ((wrap64 (t126 + 1)) + t131)) (x111001_1.length : Int)))).heap[gb104]? = some (.cells #[.int .i64 0, .slice none 0 0, .slice none 0 0] 26 (0, 0))) := ⟨by (with_reducible repeat (first | refine ql ?_ _ | refine qm ?_ | refine qk ?_ _)); refine qam ?_ NB104_130.out _; (with_reducible repeat (first | refine ql ?_ _ | refine qm ?_ | refine qk ?_ _)); exact BK104.out⟩
           have n3_ : Aside0 ((w52.setCell ⟨gb130, 2, none⟩ (.int .i64 (Int.tmod (wrap64 ((wrap64 (t126 + 1)) + t131)) (x111001_1.length : Int)))).heap[gb110]? = some (.cells #[.int .i64 (wrap64 (2 + t108)), .slice Ao29 x111001_1.length co29, u111002] 26 (0, 0))) := ⟨by (with_reducible repeat (first | refine ql ?_ _ | refine qm ?_ | refine qk ?_ _)); refine qam ?_ NB110_130.out _; (with_reducible repeat (first | refine ql ?_ _ | refine qm ?_ | refine qk ?_ _)); exact BK110.out⟩
           have n4_ : Aside0 ((w52.setCell ⟨gb130, 2, none⟩ (.int .i64 (Int.tmod (wrap64 ((wrap64 (t126 + 1)) + t131)) (x111001_1.length : Int)))).heap[gb130]? = some (.cells #[.int .i64 (wrap64 (1 + t124)), .int .i64 t126, .int .i64 (Int.tmod (wrap64 ((wrap64 (t126 + 1)) + t131)) (x111001_1.length : Int)), .int .i64 0, .int .i64 0, .int .i64 t128] 62 (0, 0))) := ⟨by (with_reducible repeat (first | refine ql ?_ _ | refine qm ?_ | refine qk ?_ _)); refine qal (cs := #[.int .i64 (wrap64 (1 + t124)), .int .i64 t126, .int .i64 0, .int .i64 0, .int .i64 0, .int .i64 t128]) ?_ 2 _ rfl; (with_reducible repeat (first | refine ql ?_ _ | refine qm ?_ | refine qk ?_ _)); exact BK130.out⟩
           have n5_ : Aside0 (IsS96 w (w52.setCell ⟨gb130, 2, none⟩ (.int .i64 (Int.tmod (wrap64 ((wrap64 (t126 + 1)) + t131)) (x111001_1.length : Int)))) g107 t105 t132) := ⟨by repeat (first | (with_reducible first | exact HI107.out | apply IsS96.alloc | apply IsS96.drewN | apply IsS96.drew | apply IsS96.set_1 | refine IsS96.far ?_ NB107_104.out _ | refine IsS96.far ?_ NB107_110.out _ | refine IsS96.far ?_ NB107_130.out _) | exact HI107.out)⟩
           have n6_ : Aside0 (Below w.heap.size w (w52.setCell ⟨gb130, 2, none⟩ (.int .i64 (Int.tmod (wrap64 ((wrap64 (t126 + 1)) + t131)) (x111001_1.length : Int))))) := ⟨by repeat (first | (with_reducible first | exact HB.out | apply qc | apply qb | apply qd | refine qn ?_ (IsS96.ge HI107.out) | refine qn ?_ GE104.out | refine qn ?_ GE110.out | refine qn ?_ GE130.out) | exact HB.out)⟩
           (try clear HO_111001)
           (try clear HO_111002)
           (try clear BK104)
           (try clear BK110)
           (try clear BK130)
           (try clear HI107)
           (try clear HB)
           generalize (w52.setCell ⟨gb130, 2, none⟩ (.int .i64 (Int.tmod (wrap64 ((wrap64 (t126 + 1)) + t131)) (x111001_1.length : Int)))) = w54 at n0_ n1_ n2_ n3_ n4_ n5_ n6_ ⊢
           have HO_111001 := n0_
           have HO_111002 := n1_
           have BK104 := n2_
           have BK110 := n3_
           have BK130 := n4_
           have HI107 := n5_
           have HB := n6_
           clear n0_ n1_ n2_ n3_ n4_ n5_ n6_
           have n0_ := qo (qi HO_111001.out)
           have n1_ := qo (qi HO_111002.out)
           have n2_ := qo (qm BK104.out)
           have n3_ := qo (qm BK110.out)
           have n4_ := qo (qm BK130.out)
           have n5_ := qo (IsS96.drew HI107.out)
           have n6_ := qo (qd HB.out)
           clear HO_111001
           clear HO_111002
           clear BK104
           clear BK110
           clear BK130
           clear HI107
           clear HB
           have HO_111001 := n0_
           have HO_111002 := n1_
           have BK104 := n2_
           have BK110 := n3_
           have BK130 := n4_
           have HI107 := n5_
           have HB := n6_
           clear n0_ n1_ n2_ n3_ n4_ n5_ n6_
           refine start_ (n := 10) (S := fun w' => w'.cell? ⟨gb110, 0, none⟩ = some (.int .i64 (wrap64 (2 + t108))) ∧ w'.cell? ⟨gb110, 1, none⟩ = some (.slice Ao29 x111001_1.length co29) ∧ w'.cell? ⟨gb110, 2, none⟩ = some (u111002)) (ds := []) #[false, false, false, false, false, false, false, false, false, false] (by kernel_rfl) rfl rfl ⟨(qe BK110.out 0).trans rfl, (qe BK110.out 1).trans rfl, (qe BK110.out 2).trans rfl⟩ (fun hHeld => ?_); refine with_tabW railplankeep_Network.tab13 railplankeep_Network.bits13 (fun HT_ HW_ => ?_)
           generalize w54.drew = w55 at HO_111001 HO_111002 BK104 BK110 BK130 HI107 HB hHeld ⊢
           refine pure_ (i := 0) (N := some 68) (v := ?_) (a' := ?_) #[true, false, false, false, false, false, false, false, false, false] rfl rfl (any_of HT_.out (by kernel_rfl)) (fun _ _ _ h => h) (Or.inl ⟨by rfl, ?_⟩) ?_ ?_
           rotate_left
           ·intro w'
            go_simp
            with_reducible rfl
           rotate_left
           ·simp only [Act.put, List.setIfInBounds_toArray, List.set_cons_zero, List.set_cons_succ, i64_w, i32_w]
            rfl
           refine pure_ (i := 1) (N := some 69) (v := ?_) (a' := ?_) #[true, true, false, false, false, false, false, false, false, false] rfl rfl (any_of HT_.out (by kernel_rfl)) (fun _ _ _ h => h) (Or.inl ⟨by rfl, ?_⟩) ?_ ?_
           rotate_left
           ·intro w'
            go_simp
            with_reducible rfl
           rotate_left
           ·simp only [Act.put, List.setIfInBounds_toArray, List.set_cons_zero, List.set_cons_succ, i64_w, i32_w]
            rfl
           refine pure_ (i := 5) (N := some 73) (v := ?_) (a' := ?_) #[true, true, false, false, false, true, false, false, false, false] rfl rfl (any_of HT_.out (by kernel_rfl)) (fun _ _ _ h => h) (Or.inl ⟨by rfl, ?_⟩) ?_ ?_
           rotate_left
           ·intro w'
            go_simp
            with_reducible rfl
           rotate_left
           ·simp only [Act.put, List.setIfInBounds_toArray, List.set_cons_zero, List.set_cons_succ, i64_w, i32_w]
            rfl
           refine take_ (i := 2) (N := some 70) (v := ?_) (a' := ?_) #[true, true, true, false, false, true, false, false, false, false] rfl rfl (take_ofW HT_.out HW_.out (by kernel_rfl)) (fun _ _ _ h => h) (Or.inl ⟨by rfl, ?_⟩) hHeld ?_ ?_
           rotate_left
           ·rintro w' ⟨s0, s1, s2⟩
            go_simp
            with_reducible rfl
           rotate_left
           ·simp only [Act.put, List.setIfInBounds_toArray, List.set_cons_zero, List.set_cons_succ, i64_w, i32_w]
            rfl
           refine pure_ (i := 3) (N := some 71) (v := ?_) (a' := ?_) #[true, true, true, true, false, true, false, false, false, false] rfl rfl (any_of HT_.out (by kernel_rfl)) (fun _ _ _ h => h) (Or.inl ⟨by rfl, ?_⟩) ?_ ?_
           rotate_left
           ·intro w'
            go_simp
            with_reducible rfl
           rotate_left
           ·simp only [Act.put, List.setIfInBounds_toArray, List.set_cons_zero, List.set_cons_succ, i64_w, i32_w]
            rfl
           refine take_ (i := 6) (N := some 74) (v := ?_) (a' := ?_) #[true, true, true, true, false, true, true, false, false, false] rfl rfl (take_ofW HT_.out HW_.out (by kernel_rfl)) (fun _ _ _ h => h) (Or.inl ⟨by rfl, ?_⟩) hHeld ?_ ?_
           rotate_left
           ·rintro w' ⟨s0, s1, s2⟩
            go_simp
            with_reducible rfl
           rotate_left
           ·simp only [Act.put, List.setIfInBounds_toArray, List.set_cons_zero, List.set_cons_succ, i64_w, i32_w]
            rfl
           refine one_ (i := 4) (N := some 72) #[true, true, true, true, true, true, true, false, false, false] rfl rfl (one_of HT_.out (by kernel_rfl)) (by decide) (fun K hK => ?_)
           refine goes_ Try.func35 (by kernel_rfl) rfl #[.pointer (some ⟨g107, 0, none⟩), .int .i64 (wrap64 (3 * (wrap64 (2 + t108))))] (by rfl) rfl rfl (by (try simp only [List.map_toArray, List.map_cons, List.map_nil]); first | done | rfl | (simp only [List.length_drop, List.length_take]; rfl)) ?_
           with_reducible refine (railplankeep_Source_Next.calls g107 t105 t132 (wrap64 (3 * (wrap64 (2 + t108)))) t133 t134 w _ ?side1 ?side2 A39.out).mono ?_
           (case side1 => repeat (first | (with_reducible first | exact HI107.out | apply IsS96.alloc | apply IsS96.drewN | apply IsS96.drew | apply IsS96.set_1 | refine IsS96.far ?_ NB107_104.out _ | refine IsS96.far ?_ NB107_110.out _ | refine IsS96.far ?_ NB107_130.out _) | exact HI107.out))
           (case side2 => repeat (first | (with_reducible first | exact HB.out | apply qc | apply qb | apply qd | refine qn ?_ (IsS96.ge HI107.out) | refine qn ?_ GE104.out | refine qn ?_ GE110.out | refine qn ?_ GE130.out) | exact HB.out))
           rintro e w56 ⟨rfl, hi, hb, hk⟩
           refine ⟨_, rfl, ?_⟩
           have n0_ := qo (qy (Kd.R_keep (IsS96.apart (show IsS96 w _ g107 t105 t132 from by repeat (first | (with_reducible first | exact HI107.out | apply IsS96.alloc | apply IsS96.drewN | apply IsS96.drew | apply IsS96.set_1 | refine IsS96.far ?_ NB107_104.out _ | refine IsS96.far ?_ NB107_110.out _ | refine IsS96.far ?_ NB107_130.out _) | exact HI107.out)) (by (with_reducible repeat (first | apply qh | apply qg | apply qi)); exact HO_111001.out) (by decide)) hk (fun _ h => h.2)) (fun _ h => h.1))
           have n1_ := qo (qy (Kd.R_keep (IsS96.apart (show IsS96 w _ g107 t105 t132 from by repeat (first | (with_reducible first | exact HI107.out | apply IsS96.alloc | apply IsS96.drewN | apply IsS96.drew | apply IsS96.set_1 | refine IsS96.far ?_ NB107_104.out _ | refine IsS96.far ?_ NB107_110.out _ | refine IsS96.far ?_ NB107_130.out _) | exact HI107.out)) (by (with_reducible repeat (first | apply qh | apply qg | apply qi)); exact HO_111002.out) (by decide)) hk (fun _ h => h.2)) (fun _ h => h.1))
           have n2_ := qo (KeepBut.blk hk (g' := gb104) (o := .cells #[.int .i64 0, .slice none 0 0, .slice none 0 0] 26 (0, 0)) (by (with_reducible repeat (first | refine ql ?_ _ | refine qm ?_ | refine qk ?_ _)); exact BK104.out) NB104_107.out (by simp))
           have n3_ := qo (KeepBut.blk hk (g' := gb110) (o := .cells #[.int .i64 (wrap64 (2 + t108)), .slice Ao29 x111001_1.length co29, u111002] 26 (0, 0)) (by (with_reducible repeat (first | refine ql ?_ _ | refine qm ?_ | refine qk ?_ _)); exact BK110.out) NB110_107.out (by simp))
           have n4_ := qo (KeepBut.blk hk (g' := gb130) (o := .cells #[.int .i64 (wrap64 (1 + t124)), .int .i64 t126, .int .i64 (Int.tmod (wrap64 ((wrap64 (t126 + 1)) + t131)) (x111001_1.length : Int)), .int .i64 0, .int .i64 0, .int .i64 t128] 62 (0, 0)) (by (with_reducible repeat (first | refine ql ?_ _ | refine qm ?_ | refine qk ?_ _)); exact BK130.out) NB130_107.out (by simp))
           have n5_ := qo (hb)
           have n6_ := qo (hi)
           clear HO_111001
           clear HO_111002
           clear BK104
           clear BK110
           clear BK130
           clear HB
           clear HI107
           have HO_111001 := n0_
           have HO_111002 := n1_
           have BK104 := n2_
           have BK110 := n3_
           have BK130 := n4_
           have HB := n5_
           have HI107 := n6_
           clear n0_ n1_ n2_ n3_ n4_ n5_ n6_
           (try clear hb)
           (try clear hb2)
           (try clear hk)
           (try clear hi)
           refine hK.out _ _ ⟨(qe BK110.out 0).trans rfl, (qe BK110.out 1).trans rfl, (qe BK110.out 2).trans rfl⟩ (fun hHeld => ?_)
           clear hK K
           refine norm_ (a' := ?_) ?_ ?_
           rotate_left
           ·show Act.put _ (some 72) _ = _
            simp only [Act.put, List.setIfInBounds_toArray, List.set_cons_zero, List.set_cons_succ, i64_w, i32_w]
            rfl
           refine pure_ (i := 7) (N := some 75) (v := ?_) (a' := ?_) #[true, true, true, true, true, true, true, true, false, false] rfl rfl (any_of HT_.out (by kernel_rfl)) (fun _ _ _ h => h) (Or.inl ⟨by rfl, ?_⟩) ?_ ?_
           rotate_left
           ·intro w'
            go_simp
            with_reducible rfl
           rotate_left
           ·simp only [Act.put, List.setIfInBounds_toArray, List.set_cons_zero, List.set_cons_succ, i64_w, i32_w]
            rfl
           refine pure_ (i := 8) (N := some 76) (v := ?_) (a' := ?_) #[true, true, true, true, true, true, true, true, true, false] rfl rfl (any_of HT_.out (by kernel_rfl)) (fun _ _ _ h => h) (Or.inl ⟨by rfl, ?_⟩) ?_ ?_
           rotate_left
           ·intro w'
            go_simp
            with_reducible rfl
           rotate_left
           ·simp only [Act.put, List.setIfInBounds_toArray, List.set_cons_zero, List.set_cons_succ, i64_w, i32_w]
            rfl
           refine one_ (i := 9) (N := none) #[true, true, true, true, true, true, true, true, true, true] rfl rfl (one_of HT_.out (by kernel_rfl)) (by decide) (fun K hK => ?_)
           have hs57 : w56.cell? ⟨gb130, 3, none⟩ = some (.int .i64 0) := (qe BK130.out 3).trans rfl
           have hfs57 := qf BK130.out 3
           have hns57_0 := NB104_130.out
           have hns57_1 := NB110_130.out
           have hms57_0 := NB130_104.out
           have hms57_1 := NB130_110.out
           refine skip_ (w1 := ?_) (by rfl) rfl ?_ ?_
           rotate_left
           ·go_simp
            rfl
           refine hK.out _ _ ⟨((cell_far (p := ⟨gb130, _, none⟩) NB110_130.out _).trans (hHeld.1)), ((cell_far (p := ⟨gb130, _, none⟩) NB110_130.out _).trans (hHeld.2.1)), ((cell_far (p := ⟨gb130, _, none⟩) NB110_130.out _).trans (hHeld.2.2))⟩ (fun hHeld => ?_)
           clear hK K
           refine done_ (done_of HT_.out (by kernel_rfl)) ?_
           try go_wp2
           have n0_ : Aside0 (Kd.R k60 60 (w56.setCell ⟨gb130, 3, none⟩ (.int .i64 (wrap64 (t133 - (wrap64 (2 + t108)))))) w.heap.size (fun _ => True) (.slice Ao29 x111001_1.length co29) x111001_1) := ⟨by (with_reducible repeat (first | apply qh | apply qg | apply qi)); exact qy (qz (p := ⟨gb130, 3, none⟩) (qaf HO_111001.out BK130.out (by decide)) (fun _ hk => hk.2) (.int .i64 (wrap64 (t133 - (wrap64 (2 + t108)))))) (fun _ hk => trivial)⟩
           have n1_ : Aside0 (Kd.R k62 62 (w56.setCell ⟨gb130, 3, none⟩ (.int .i64 (wrap64 (t133 - (wrap64 (2 + t108)))))) w.heap.size (fun k_ => k_ ≠ gb130) u111002 x111002_2) := ⟨by (with_reducible repeat (first | apply qh | apply qg | apply qi)); exact qy (qz (p := ⟨gb130, 3, none⟩) (qy HO_111002.out (fun k_ hk => (⟨hk, hk⟩ : _ ∧ k_ ≠ gb130))) (fun _ hk => hk.2) (.int .i64 (wrap64 (t133 - (wrap64 (2 + t108)))))) (fun _ hk => hk.1)⟩
           have n2_ : Aside0 ((w56.setCell ⟨gb130, 3, none⟩ (.int .i64 (wrap64 (t133 - (wrap64 (2 + t108)))))).heap[gb104]? = some (.cells #[.int .i64 0, .slice none 0 0, .slice none 0 0] 26 (0, 0))) := ⟨by (with_reducible repeat (first | refine ql ?_ _ | refine qm ?_ | refine qk ?_ _)); refine qam ?_ NB104_130.out _; (with_reducible repeat (first | refine ql ?_ _ | refine qm ?_ | refine qk ?_ _)); exact BK104.out⟩
           have n3_ : Aside0 ((w56.setCell ⟨gb130, 3, none⟩ (.int .i64 (wrap64 (t133 - (wrap64 (2 + t108)))))).heap[gb110]? = some (.cells #[.int .i64 (wrap64 (2 + t108)), .slice Ao29 x111001_1.length co29, u111002] 26 (0, 0))) := ⟨by (with_reducible repeat (first | refine ql ?_ _ | refine qm ?_ | refine qk ?_ _)); refine qam ?_ NB110_130.out _; (with_reducible repeat (first | refine ql ?_ _ | refine qm ?_ | refine qk ?_ _)); exact BK110.out⟩
           have n4_ : Aside0 ((w56.setCell ⟨gb130, 3, none⟩ (.int .i64 (wrap64 (t133 - (wrap64 (2 + t108)))))).heap[gb130]? = some (.cells #[.int .i64 (wrap64 (1 + t124)), .int .i64 t126, .int .i64 (Int.tmod (wrap64 ((wrap64 (t126 + 1)) + t131)) (x111001_1.length : Int)), .int .i64 (wrap64 (t133 - (wrap64 (2 + t108)))), .int .i64 0, .int .i64 t128] 62 (0, 0))) := ⟨by (with_reducible repeat (first | refine ql ?_ _ | refine qm ?_ | refine qk ?_ _)); refine qal (cs := #[.int .i64 (wrap64 (1 + t124)), .int .i64 t126, .int .i64 (Int.tmod (wrap64 ((wrap64 (t126 + 1)) + t131)) (x111001_1.length : Int)), .int .i64 0, .int .i64 0, .int .i64 t128]) ?_ 3 _ rfl; (with_reducible repeat (first | refine ql ?_ _ | refine qm ?_ | refine qk ?_ _)); exact BK130.out⟩
           have n5_ : Aside0 (IsS96 w (w56.setCell ⟨gb130, 3, none⟩ (.int .i64 (wrap64 (t133 - (wrap64 (2 + t108)))))) g107 t105 t134) := ⟨by repeat (first | (with_reducible first | exact HI107.out | apply IsS96.alloc | apply IsS96.drewN | apply IsS96.drew | apply IsS96.set_1 | refine IsS96.far ?_ NB107_104.out _ | refine IsS96.far ?_ NB107_110.out _ | refine IsS96.far ?_ NB107_130.out _) | exact HI107.out)⟩
           have n6_ : Aside0 (Below w.heap.size w (w56.setCell ⟨gb130, 3, none⟩ (.int .i64 (wrap64 (t133 - (wrap64 (2 + t108))))))) := ⟨by repeat (first | (with_reducible first | exact HB.out | apply qc | apply qb | apply qd | refine qn ?_ (IsS96.ge HI107.out) | refine qn ?_ GE104.out | refine qn ?_ GE110.out | refine qn ?_ GE130.out) | exact HB.out)⟩
           (try clear HO_111001)
           (try clear HO_111002)
           (try clear BK104)
           (try clear BK110)
           (try clear BK130)
           (try clear HI107)
           (try clear HB)
           generalize (w56.setCell ⟨gb130, 3, none⟩ (.int .i64 (wrap64 (t133 - (wrap64 (2 + t108)))))) = w58 at n0_ n1_ n2_ n3_ n4_ n5_ n6_ ⊢
           have HO_111001 := n0_
           have HO_111002 := n1_
           have BK104 := n2_
           have BK110 := n3_
           have BK130 := n4_
           have HI107 := n5_
           have HB := n6_
           clear n0_ n1_ n2_ n3_ n4_ n5_ n6_
           have n0_ := qo (qi HO_111001.out)
           have n1_ := qo (qi HO_111002.out)
           have n2_ := qo (qm BK104.out)
           have n3_ := qo (qm BK110.out)
           have n4_ := qo (qm BK130.out)
           have n5_ := qo (IsS96.drew HI107.out)
           have n6_ := qo (qd HB.out)
           clear HO_111001
           clear HO_111002
           clear BK104
           clear BK110
           clear BK130
           clear HI107
           clear HB
           have HO_111001 := n0_
           have HO_111002 := n1_
           have BK104 := n2_
           have BK110 := n3_
           have BK130 := n4_
           have HI107 := n5_
           have HB := n6_
           clear n0_ n1_ n2_ n3_ n4_ n5_ n6_
           refine start_ (n := 9) (S := fun w' => w'.cell? ⟨gb130, 0, none⟩ = some (.int .i64 (wrap64 (1 + t124))) ∧ w'.cell? ⟨gb130, 1, none⟩ = some (.int .i64 t126) ∧ w'.cell? ⟨gb130, 2, none⟩ = some (.int .i64 (Int.tmod (wrap64 ((wrap64 (t126 + 1)) + t131)) (x111001_1.length : Int))) ∧ w'.cell? ⟨gb130, 3, none⟩ = some (.int .i64 (wrap64 (t133 - (wrap64 (2 + t108))))) ∧ w'.cell? ⟨gb130, 4, none⟩ = some (.int .i64 0) ∧ w'.cell? ⟨gb130, 5, none⟩ = some (.int .i64 t128) ∧ w'.cell? ⟨gb110, 0, none⟩ = some (.int .i64 (wrap64 (2 + t108))) ∧ w'.cell? ⟨gb110, 1, none⟩ = some (.slice Ao29 x111001_1.length co29) ∧ w'.cell? ⟨gb110, 2, none⟩ = some (u111002)) (ds := [8]) #[false, false, false, false, false, false, false, false, false] (by kernel_rfl) rfl rfl ⟨(qe BK130.out 0).trans rfl, (qe BK130.out 1).trans rfl, (qe BK130.out 2).trans rfl, (qe BK130.out 3).trans rfl, (qe BK130.out 4).trans rfl, (qe BK130.out 5).trans rfl, (qe BK110.out 0).trans rfl, (qe BK110.out 1).trans rfl, (qe BK110.out 2).trans rfl⟩ (fun hHeld => ?_); refine with_tabW railplankeep_Network.tab14 railplankeep_Network.bits14 (fun HT_ HW_ => ?_)
           generalize w58.drew = w59 at HO_111001 HO_111002 BK104 BK110 BK130 HI107 HB hHeld ⊢
           refine pure_ (i := 0) (N := some 77) (v := ?_) (a' := ?_) #[true, false, false, false, false, false, false, false, false] rfl rfl (any_of HT_.out (by kernel_rfl)) (fun _ _ _ h => h) (Or.inl ⟨by rfl, ?_⟩) ?_ ?_
           rotate_left
           ·intro w'
            go_simp
            with_reducible rfl
           rotate_left
           ·simp only [Act.put, List.setIfInBounds_toArray, List.set_cons_zero, List.set_cons_succ, i64_w, i32_w]
            rfl
           refine pure_ (i := 2) (N := some 79) (v := ?_) (a' := ?_) #[true, false, true, false, false, false, false, false, false] rfl rfl (any_of HT_.out (by kernel_rfl)) (fun _ _ _ h => h) (Or.inl ⟨by rfl, ?_⟩) ?_ ?_
           rotate_left
           ·intro w'
            go_simp
            with_reducible rfl
           rotate_left
           ·simp only [Act.put, List.setIfInBounds_toArray, List.set_cons_zero, List.set_cons_succ, i64_w, i32_w]
            rfl
           refine pure_ (i := 3) (N := some 80) (v := ?_) (a' := ?_) #[true, false, true, true, false, false, false, false, false] rfl rfl (any_of HT_.out (by kernel_rfl)) (fun _ _ _ h => h) (Or.inl ⟨by rfl, ?_⟩) ?_ ?_
           rotate_left
           ·intro w'
            go_simp
            with_reducible rfl
           rotate_left
           ·simp only [Act.put, List.setIfInBounds_toArray, List.set_cons_zero, List.set_cons_succ, i64_w, i32_w]
            rfl
           refine take_ (i := 1) (N := some 78) (v := ?_) (a' := ?_) #[true, true, true, true, false, false, false, false, false] rfl rfl (take_ofW HT_.out HW_.out (by kernel_rfl)) (fun _ _ _ h => h) (Or.inl ⟨by rfl, ?_⟩) hHeld ?_ ?_
           rotate_left
           ·rintro w' ⟨s0, s1, s2, s3, s4, s5, s6, s7, s8⟩
            go_simp
            with_reducible rfl
           rotate_left
           ·simp only [Act.put, List.setIfInBounds_toArray, List.set_cons_zero, List.set_cons_succ, i64_w, i32_w]
            rfl
           refine take_ (i := 4) (N := some 81) (v := ?_) (a' := ?_) #[true, true, true, true, true, false, false, false, false] rfl rfl (take_ofW HT_.out HW_.out (by kernel_rfl)) (fun _ _ _ h => h) (Or.inl ⟨by rfl, ?_⟩) hHeld ?_ ?_
           rotate_left
           ·rintro w' ⟨s0, s1, s2, s3, s4, s5, s6, s7, s8⟩
            go_simp
            with_reducible rfl
           rotate_left
           ·simp only [Act.put, List.setIfInBounds_toArray, List.set_cons_zero, List.set_cons_succ, i64_w, i32_w]
            rfl
           refine one_ (i := 5) (N := some 82) #[true, true, true, true, true, true, false, false, false] rfl rfl (one_of HT_.out (by kernel_rfl)) (by decide) (fun K hK => ?_)
           refine goes_ Try.func35 (by kernel_rfl) rfl #[.pointer (some ⟨g107, 0, none⟩), .int .i64 (wrap64 (2 + t108))] (by rfl) rfl rfl (by (try simp only [List.map_toArray, List.map_cons, List.map_nil]); first | done | rfl | (simp only [List.length_drop, List.length_take]; rfl)) ?_
           with_reducible refine (railplankeep_Source_Next.calls g107 t105 t134 (wrap64 (2 + t108)) t135 t136 w _ ?side1 ?side2 A40.out).mono ?_
           (case side1 => repeat (first | (with_reducible first | exact HI107.out | apply IsS96.alloc | apply IsS96.drewN | apply IsS96.drew | apply IsS96.set_1 | refine IsS96.far ?_ NB107_104.out _ | refine IsS96.far ?_ NB107_110.out _ | refine IsS96.far ?_ NB107_130.out _) | exact HI107.out))
           (case side2 => repeat (first | (with_reducible first | exact HB.out | apply qc | apply qb | apply qd | refine qn ?_ (IsS96.ge HI107.out) | refine qn ?_ GE104.out | refine qn ?_ GE110.out | refine qn ?_ GE130.out) | exact HB.out))
           rintro e w60 ⟨rfl, hi, hb, hk⟩
           refine ⟨_, rfl, ?_⟩
           have n0_ := qo (qy (Kd.R_keep (IsS96.apart (show IsS96 w _ g107 t105 t134 from by repeat (first | (with_reducible first | exact HI107.out | apply IsS96.alloc | apply IsS96.drewN | apply IsS96.drew | apply IsS96.set_1 | refine IsS96.far ?_ NB107_104.out _ | refine IsS96.far ?_ NB107_110.out _ | refine IsS96.far ?_ NB107_130.out _) | exact HI107.out)) (by (with_reducible repeat (first | apply qh | apply qg | apply qi)); exact HO_111001.out) (by decide)) hk (fun _ h => h.2)) (fun _ h => h.1))
           have n1_ := qo (qy (Kd.R_keep (IsS96.apart (show IsS96 w _ g107 t105 t134 from by repeat (first | (with_reducible first | exact HI107.out | apply IsS96.alloc | apply IsS96.drewN | apply IsS96.drew | apply IsS96.set_1 | refine IsS96.far ?_ NB107_104.out _ | refine IsS96.far ?_ NB107_110.out _ | refine IsS96.far ?_ NB107_130.out _) | exact HI107.out)) (by (with_reducible repeat (first | apply qh | apply qg | apply qi)); exact HO_111002.out) (by decide)) hk (fun _ h => h.2)) (fun _ h => h.1))
           have n2_ := qo (KeepBut.blk hk (g' := gb104) (o := .cells #[.int .i64 0, .slice none 0 0, .slice none 0 0] 26 (0, 0)) (by (with_reducible repeat (first | refine ql ?_ _ | refine qm ?_ | refine qk ?_ _)); exact BK104.out) NB104_107.out (by simp))
           have n3_ := qo (KeepBut.blk hk (g' := gb110) (o := .cells #[.int .i64 (wrap64 (2 + t108)), .slice Ao29 x111001_1.length co29, u111002] 26 (0, 0)) (by (with_reducible repeat (first | refine ql ?_ _ | refine qm ?_ | refine qk ?_ _)); exact BK110.out) NB110_107.out (by simp))
           have n4_ := qo (KeepBut.blk hk (g' := gb130) (o := .cells #[.int .i64 (wrap64 (1 + t124)), .int .i64 t126, .int .i64 (Int.tmod (wrap64 ((wrap64 (t126 + 1)) + t131)) (x111001_1.length : Int)), .int .i64 (wrap64 (t133 - (wrap64 (2 + t108)))), .int .i64 0, .int .i64 t128] 62 (0, 0)) (by (with_reducible repeat (first | refine ql ?_ _ | refine qm ?_ | refine qk ?_ _)); exact BK130.out) NB130_107.out (by simp))
           have n5_ := qo (hb)
           have n6_ := qo (hi)
           clear HO_111001
           clear HO_111002
           clear BK104
           clear BK110
           clear BK130
           clear HB
           clear HI107
           have HO_111001 := n0_
           have HO_111002 := n1_
           have BK104 := n2_
           have BK110 := n3_
           have BK130 := n4_
           have HB := n5_
           have HI107 := n6_
           clear n0_ n1_ n2_ n3_ n4_ n5_ n6_
           (try clear hb)
           (try clear hb2)
           (try clear hk)
           (try clear hi)
           refine hK.out _ _ ⟨(qe BK130.out 0).trans rfl, (qe BK130.out 1).trans rfl, (qe BK130.out 2).trans rfl, (qe BK130.out 3).trans rfl, (qe BK130.out 4).trans rfl, (qe BK130.out 5).trans rfl, (qe BK110.out 0).trans rfl, (qe BK110.out 1).trans rfl, (qe BK110.out 2).trans rfl⟩ (fun hHeld => ?_)
           clear hK K
           refine norm_ (a' := ?_) ?_ ?_
           rotate_left
           ·show Act.put _ (some 82) _ = _
            simp only [Act.put, List.setIfInBounds_toArray, List.set_cons_zero, List.set_cons_succ, i64_w, i32_w]
            rfl
           refine pure_ (i := 6) (N := some 83) (v := ?_) (a' := ?_) #[true, true, true, true, true, true, true, false, false] rfl rfl (any_of HT_.out (by kernel_rfl)) (fun _ _ _ h => h) (Or.inl ⟨by rfl, ?_⟩) ?_ ?_
           rotate_left
           ·intro w'
            go_simp
            with_reducible rfl
           rotate_left
           ·simp only [Act.put, List.setIfInBounds_toArray, List.set_cons_zero, List.set_cons_succ, i64_w, i32_w]
            rfl
           refine pure_ (i := 7) (N := some 84) (v := ?_) (a' := ?_) #[true, true, true, true, true, true, true, true, false] rfl rfl (any_of HT_.out (by kernel_rfl)) (fun _ _ _ h => h) (Or.inl ⟨by rfl, ?_⟩) ?_ ?_
           rotate_left
           ·intro w'
            go_simp
            with_reducible rfl
           rotate_left
           ·simp only [Act.put, List.setIfInBounds_toArray, List.set_cons_zero, List.set_cons_succ, i64_w, i32_w]
            rfl
           refine last_ (i := 8) (N := none) #[true, true, true, true, true, true, true, true, true] rfl rfl (one_of HT_.out (by kernel_rfl)) (by decide) (fun K hK => ?_)
           have hs61 : w60.cell? ⟨gb130, 4, none⟩ = some (.int .i64 0) := (qe BK130.out 4).trans rfl
           have hfs61 := qf BK130.out 4
           have hns61_0 := NB104_130.out
           have hns61_1 := NB110_130.out
           have hms61_0 := NB130_104.out
           have hms61_1 := NB130_110.out
           refine skip_ (w1 := ?_) (by rfl) rfl ?_ ?_
           rotate_left
           ·go_simp
            rfl
           refine hK.out _ _ ?_
           clear hK K
           refine done_ (done_of HT_.out (by kernel_rfl)) ?_
           have hnb62 := NB110_104.out
           have hnc62 := NB104_110.out
           have hnb63 := NB110_107.out
           have hnc63 := NB107_110.out
           have hcz64_0 : w60.cell? ⟨gb110, 0, none⟩ = some (.int .i64 (wrap64 (2 + t108))) := (qe BK110.out 0).trans rfl
           have hcz64_1 : w60.cell? ⟨gb110, 1, none⟩ = some (.slice Ao29 x111001_1.length co29) := (qe BK110.out 1).trans rfl
           have hcz64_2 : w60.cell? ⟨gb110, 2, none⟩ = some (u111002) := (qe BK110.out 2).trans rfl
           have hfz64_0 := qf BK110.out 0
           have hfz64_1 := qf BK110.out 1
           have hfz64_2 := qf BK110.out 2
           have hcz65_0 : w60.cell? ⟨gb130, 0, none⟩ = some (.int .i64 (wrap64 (1 + t124))) := (qe BK130.out 0).trans rfl
           have hcz65_1 : w60.cell? ⟨gb130, 1, none⟩ = some (.int .i64 t126) := (qe BK130.out 1).trans rfl
           have hcz65_2 : w60.cell? ⟨gb130, 2, none⟩ = some (.int .i64 (Int.tmod (wrap64 ((wrap64 (t126 + 1)) + t131)) (x111001_1.length : Int))) := (qe BK130.out 2).trans rfl
           have hcz65_3 : w60.cell? ⟨gb130, 3, none⟩ = some (.int .i64 (wrap64 (t133 - (wrap64 (2 + t108))))) := (qe BK130.out 3).trans rfl
           have hcz65_4 : w60.cell? ⟨gb130, 4, none⟩ = some (.int .i64 0) := (qe BK130.out 4).trans rfl
           have hcz65_5 : w60.cell? ⟨gb130, 5, none⟩ = some (.int .i64 t128) := (qe BK130.out 5).trans rfl
           have hfz65_0 := qf BK130.out 0
           have hfz65_1 := qf BK130.out 1
           have hfz65_2 := qf BK130.out 2
           have hfz65_3 := qf BK130.out 3
           have hfz65_4 := qf BK130.out 4
           have hfz65_5 := qf BK130.out 5
           try go_wp2_with (first | ((with_reducible refine gate_builtin (b := .append) (xs := #[.tmp 86, .tmp 88]) rfl ?_); at_builtin; refine Kd.R_append k62 (w0 := w) w.heap.size rfl (.tmp 86) (.tmp 88) 24 62 (.agg #[(.int .i64 0), (.int .i64 0), (.int .i64 0), (.int .i64 0), (.int .i64 0), (.int .i64 0)]) 48 rfl Try.underlying24 info62 rfl (by decide) (by omega) u111002 x111002_2 (⟨wrap64 (1 + t124), t126, Int.tmod (wrap64 ((wrap64 (t126 + 1)) + t131)) (x111001_1.length : Int), wrap64 (t133 - (wrap64 (2 + t108))), wrap64 ((wrap64 (t133 - (wrap64 (2 + t108)))) + t135), t128⟩ : S62) [.int .i64 (wrap64 (1 + t124)), .int .i64 t126, .int .i64 (Int.tmod (wrap64 ((wrap64 (t126 + 1)) + t131)) (x111001_1.length : Int)), .int .i64 (wrap64 (t133 - (wrap64 (2 + t108)))), .int .i64 (wrap64 ((wrap64 (t133 - (wrap64 (2 + t108)))) + t135)), .int .i64 t128] (fun k_ => k_ ≠ gb130) (fun _ => False) rfl (by first | (go_simp; done) | (go_simp; rfl)) ?aP (fun _ hk => hk.elim) ?aF ?aO ?aB ?aS ?aL ?_; (case aP => exact k62_mkM _ _ _ (⟨wrap64 (1 + t124), t126, Int.tmod (wrap64 ((wrap64 (t126 + 1)) + t131)) (x111001_1.length : Int), wrap64 (t133 - (wrap64 (2 + t108))), wrap64 ((wrap64 (t133 - (wrap64 (2 + t108)))) + t135), t128⟩ : S62)); (case aB => exact (by repeat (first | (with_reducible first | exact HB.out | apply qc | apply qb | apply qd | refine qn ?_ (IsS96.ge HI107.out) | refine qn ?_ GE104.out | refine qn ?_ GE110.out | refine qn ?_ GE130.out) | exact HB.out))); (case aF => exact (fun k_ hk => Kd.freshB (g := gb130) (o := .cells #[.int .i64 (wrap64 (1 + t124)), .int .i64 t126, .int .i64 (Int.tmod (wrap64 ((wrap64 (t126 + 1)) + t131)) (x111001_1.length : Int)), .int .i64 (wrap64 (t133 - (wrap64 (2 + t108)))), .int .i64 (wrap64 ((wrap64 (t133 - (wrap64 (2 + t108)))) + t135)), .int .i64 t128] 62 (0, 0)) (by (with_reducible repeat (first | refine ql ?_ _ | refine qm ?_ | refine qk ?_ _)); refine qal (cs := #[.int .i64 (wrap64 (1 + t124)), .int .i64 t126, .int .i64 (Int.tmod (wrap64 ((wrap64 (t126 + 1)) + t131)) (x111001_1.length : Int)), .int .i64 (wrap64 (t133 - (wrap64 (2 + t108)))), .int .i64 0, .int .i64 t128]) ?_ 4 _ rfl; (with_reducible repeat (first | refine ql ?_ _ | refine qm ?_ | refine qk ?_ _)); exact BK130.out) k_ hk)); (case aO => exact (by (with_reducible repeat (first | apply qh | apply qg | apply qi)); exact qy (qz (p := ⟨gb130, 4, none⟩) (qy HO_111002.out (fun k_ hk => (⟨hk, hk⟩ : _ ∧ k_ ≠ gb130))) (fun _ hk => hk.2) (.int .i64 (wrap64 ((wrap64 (t133 - (wrap64 (2 + t108)))) + t135)))) (fun _ hk => hk.1))); (case aS => exact (qu (by repeat (first | (with_reducible first | exact HB.out | apply qc | apply qb | apply qd | refine qn ?_ (IsS96.ge HI107.out) | refine qn ?_ GE104.out | refine qn ?_ GE110.out | refine qn ?_ GE130.out) | exact HB.out)))); (case aL => have := LMc41.out; omega); intro v138 w66 ho hb hg hat; rw [← Ny137.out] at ho; have n0_ := qo (Kd.R_over' (by (with_reducible repeat (first | apply qh | apply qg | apply qi)); exact (qy (qz (p := ⟨gb130, 4, none⟩) (qaf HO_111001.out BK130.out (by decide)) (fun _ hk => hk.2) (.int .i64 (wrap64 ((wrap64 (t133 - (wrap64 (2 + t108)))) + t135)))) (fun _ h_ => h_.1))) (Kd.R_typed (by (with_reducible repeat (first | apply qh | apply qg | apply qi)); exact (qy (qz (p := ⟨gb130, 4, none⟩) (qy HO_111002.out (fun k_ hk => (⟨hk, hk⟩ : _ ∧ k_ ≠ gb130))) (fun _ hk => hk.2) (.int .i64 (wrap64 ((wrap64 (t133 - (wrap64 (2 + t108)))) + t135)))) (fun _ h_ => h_.1)))) (by decide) hg); have n1_ := qo (blk_grown (g := gb104) (o := .cells #[.int .i64 0, .slice none 0 0, .slice none 0 0] 26 (0, 0)) (by (with_reducible repeat (first | refine ql ?_ _ | refine qm ?_ | refine qk ?_ _)); refine qam ?_ NB104_130.out _; (with_reducible repeat (first | refine ql ?_ _ | refine qm ?_ | refine qk ?_ _)); exact BK104.out) hg (Kd.R_ne HO_111002.out BK104.out (by decide))); have n2_ := qo (blk_grown (g := gb110) (o := .cells #[.int .i64 (wrap64 (2 + t108)), .slice Ao29 x111001_1.length co29, u111002] 26 (0, 0)) (by (with_reducible repeat (first | refine ql ?_ _ | refine qm ?_ | refine qk ?_ _)); refine qam ?_ NB110_130.out _; (with_reducible repeat (first | refine ql ?_ _ | refine qm ?_ | refine qk ?_ _)); exact BK110.out) hg (Kd.R_ne HO_111002.out BK110.out (by decide))); have n3_ := qo (IsS96.grown (by first | exact IsS96.far HI107.out NB107_104.out _ | exact IsS96.far HI107.out NB107_110.out _ | exact IsS96.far HI107.out NB107_130.out _ | repeat (first | (with_reducible first | exact HI107.out | apply IsS96.alloc | apply IsS96.drewN | apply IsS96.drew | apply IsS96.set_1 | refine IsS96.far ?_ NB107_104.out _ | refine IsS96.far ?_ NB107_110.out _ | refine IsS96.far ?_ NB107_130.out _) | exact HI107.out)) hg (IsS96.own_ne HI107.out HO_111002.out (by decide))); have n4_ := qo (blk_grown (g := gb130) (o := .cells #[.int .i64 (wrap64 (1 + t124)), .int .i64 t126, .int .i64 (Int.tmod (wrap64 ((wrap64 (t126 + 1)) + t131)) (x111001_1.length : Int)), .int .i64 (wrap64 (t133 - (wrap64 (2 + t108)))), .int .i64 (wrap64 ((wrap64 (t133 - (wrap64 (2 + t108)))) + t135)), .int .i64 t128] 62 (0, 0)) (by (with_reducible repeat (first | refine ql ?_ _ | refine qm ?_ | refine qk ?_ _)); refine qal (cs := #[.int .i64 (wrap64 (1 + t124)), .int .i64 t126, .int .i64 (Int.tmod (wrap64 ((wrap64 (t126 + 1)) + t131)) (x111001_1.length : Int)), .int .i64 (wrap64 (t133 - (wrap64 (2 + t108)))), .int .i64 0, .int .i64 t128]) ?_ 4 _ rfl; (with_reducible repeat (first | refine ql ?_ _ | refine qm ?_ | refine qk ?_ _)); exact BK130.out) hg (Kd.R_away HO_111002.out (fun _ hk => hk))); have n5_ := qo (hb); have n6_ := qo (ho); clear HO_111001; clear BK104; clear BK110; clear HI107; clear BK130; clear HB; clear HO_111002; have HO_111001 := n0_; have BK104 := n1_; have BK110 := n2_; have HI107 := n3_; have BK130 := n4_; have HB := n5_; have HO139 := n6_; clear n0_ n1_ n2_ n3_ n4_ n5_ n6_; clear ho hb hg hat; obtain ⟨Ao67, co67, eo67⟩ := qak HO139.out; subst eo67; have hcz68_0 : w66.cell? ⟨gb110, 0, none⟩ = some (.int .i64 (wrap64 (2 + t108))) := (qe BK110.out 0).trans rfl; have hcz68_1 : w66.cell? ⟨gb110, 1, none⟩ = some (.slice Ao29 x111001_1.length co29) := (qe BK110.out 1).trans rfl; have hcz68_2 : w66.cell? ⟨gb110, 2, none⟩ = some (u111002) := (qe BK110.out 2).trans rfl; have hfz68_0 := qf BK110.out 0; have hfz68_1 := qf BK110.out 1; have hfz68_2 := qf BK110.out 2))
           go_roundg kj30
           case measure => have := HK1.out; have := HK2.out; have := HJ30.out; omega
           case rel => exact ⟨(wrap64 (x7_2 - 1)), (t136), (y137), (.slice Ao67 y137.length co67), (by first | rfl | (simp; done) | (simp [*]; done)), H', ⟨by have := HK1.out; have := HK2.out; have := HJ30.out; omega⟩, ⟨by (with_reducible repeat (first | apply qh | apply qg | apply qi)); exact qy (qz (p := ⟨gb110, 2, none⟩) (qaf HO_111001.out BK110.out (by decide)) (fun _ hk => hk.2) (.slice Ao67 y137.length co67)) (fun _ hk => trivial)⟩, ⟨by (with_reducible repeat (first | apply qh | apply qg | apply qi)); exact qy (qz (p := ⟨gb110, 2, none⟩) (qaf HO139.out BK110.out (by decide)) (fun _ hk => hk.2) (.slice Ao67 y137.length co67)) (fun _ hk => trivial)⟩, ⟨by (with_reducible repeat (first | refine ql ?_ _ | refine qm ?_ | refine qk ?_ _)); refine qam ?_ NB104_110.out _; (with_reducible repeat (first | refine ql ?_ _ | refine qm ?_ | refine qk ?_ _)); exact BK104.out⟩, ⟨by (with_reducible repeat (first | refine ql ?_ _ | refine qm ?_ | refine qk ?_ _)); refine qal (cs := #[.int .i64 (wrap64 (2 + t108)), .slice Ao29 x111001_1.length co29, u111002]) ?_ 2 _ rfl; (with_reducible repeat (first | refine ql ?_ _ | refine qm ?_ | refine qk ?_ _)); exact BK110.out⟩, ⟨by repeat (first | (with_reducible first | exact HI107.out | apply IsS96.alloc | apply IsS96.drewN | apply IsS96.drew | apply IsS96.set_1 | refine IsS96.far ?_ NB107_104.out _ | refine IsS96.far ?_ NB107_110.out _ | refine IsS96.far ?_ NB107_130.out _) | exact HI107.out)⟩, ⟨by repeat (first | (with_reducible first | exact HB.out | apply qc | apply qb | apply qd | refine qn ?_ (IsS96.ge HI107.out) | refine qn ?_ GE104.out | refine qn ?_ GE110.out | refine qn ?_ GE130.out) | exact HB.out)⟩⟩
          ·rw [if_neg c41] at H
           exact absurd H (by simp)
        ·replace c33 := Bool.eq_false_iff.mpr c33
         subst c33
         have H1 : (some ((wrap64 (2 + t108)), x111001_1, x111002_2)) = some (r1, r2, r3) := by rw [if_neg (show ¬ (false = true) by decide)] at H; exact H
         clear H
         have H := H1
         clear H1
         simp only [Option.some.injEq, Prod.mk.injEq] at H
         obtain ⟨rfl, rfl, rfl⟩ := H
         have hnb69 := NB110_104.out
         have hnc69 := NB104_110.out
         have hnb70 := NB110_107.out
         have hnc70 := NB107_110.out
         have hcz71_0 : wc.cell? ⟨gb110, 0, none⟩ = some (.int .i64 (wrap64 (2 + t108))) := (qe BK110.out 0).trans rfl
         have hcz71_1 : wc.cell? ⟨gb110, 1, none⟩ = some (.slice Ao29 x111001_1.length co29) := (qe BK110.out 1).trans rfl
         have hcz71_2 : wc.cell? ⟨gb110, 2, none⟩ = some (u111002) := (qe BK110.out 2).trans rfl
         have hfz71_0 := qf BK110.out 0
         have hfz71_1 := qf BK110.out 1
         have hfz71_2 := qf BK110.out 2
         have hnb72 := NB104_107.out
         have hnc72 := NB107_104.out
         have hcz73_0 : wc.cell? ⟨gb104, 0, none⟩ = some (.int .i64 0) := (qe BK104.out 0).trans rfl
         have hcz73_1 : wc.cell? ⟨gb104, 1, none⟩ = some (.slice none 0 0) := (qe BK104.out 1).trans rfl
         have hcz73_2 : wc.cell? ⟨gb104, 2, none⟩ = some (.slice none 0 0) := (qe BK104.out 2).trans rfl
         have hfz73_0 := qf BK104.out 0
         have hfz73_1 := qf BK104.out 1
         have hfz73_2 := qf BK104.out 2
         obtain ⟨Ao74, co74, eo74⟩ := qak HO_111002.out
         subst eo74
         go_wp2
         refine bodyPost_ret (results_cell_row rfl _ _ gb104 26 #[.int .i64 (wrap64 (2 + t108)), .slice Ao29 x111001_1.length co29, .slice Ao74 x111002_2.length co74] (0, 0) _ rfl (by (with_reducible repeat (first | refine ql ?_ _ | refine qm ?_ | refine qk ?_ _)); refine qal (cs := #[.int .i64 (wrap64 (2 + t108)), .slice Ao29 x111001_1.length co29, .slice none 0 0]) ?_ 2 _ rfl; (with_reducible repeat (first | refine ql ?_ _ | refine qm ?_ | refine qk ?_ _)); refine qal (cs := #[.int .i64 (wrap64 (2 + t108)), .slice none 0 0, .slice none 0 0]) ?_ 1 _ rfl; (with_reducible repeat (first | refine ql ?_ _ | refine qm ?_ | refine qk ?_ _)); refine qal (cs := #[.int .i64 0, .slice none 0 0, .slice none 0 0]) ?_ 0 _ rfl; (with_reducible repeat (first | refine ql ?_ _ | refine qm ?_ | refine qk ?_ _)); exact BK104.out) Try.underlying26 rfl (by kernel_rfl)) rfl ?_
         exact ⟨_, _, by first | rfl | (simp [errW_none, errW_some] <;> rfl) | (simp [*, errW_none, errW_some] <;> rfl), by (with_reducible repeat (first | apply qh | apply qg | apply qi)); exact qy (qz (p := ⟨gb104, 2, none⟩) (qz (p := ⟨gb104, 1, none⟩) (qz (p := ⟨gb104, 0, none⟩) (qaf HO_111001.out BK104.out (by decide)) (fun _ hk => hk.2) (.int .i64 (wrap64 (2 + t108)))) (fun _ hk => hk.2) (.slice Ao29 x111001_1.length co29)) (fun _ hk => hk.2) (.slice Ao74 x111002_2.length co74)) (fun _ hk => trivial), by (with_reducible repeat (first | apply qh | apply qg | apply qi)); exact qy (qz (p := ⟨gb104, 2, none⟩) (qz (p := ⟨gb104, 1, none⟩) (qz (p := ⟨gb104, 0, none⟩) (qaf HO_111002.out BK104.out (by decide)) (fun _ hk => hk.2) (.int .i64 (wrap64 (2 + t108)))) (fun _ hk => hk.2) (.slice Ao29 x111001_1.length co29)) (fun _ hk => hk.2) (.slice Ao74 x111002_2.length co74)) (fun _ hk => trivial), by repeat (first | (with_reducible first | exact HB.out | apply qc | apply qb | apply qd | refine qn ?_ (IsS96.ge HI107.out) | refine qn ?_ GE104.out | refine qn ?_ GE110.out) | exact HB.out)⟩

end Go.Proofs.Ytpioelilfhkfdaa.XAll
