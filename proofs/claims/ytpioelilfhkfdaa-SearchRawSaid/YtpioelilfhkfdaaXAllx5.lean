-- This session's own text, written by wip/tools/xall.py after the form of the kit's print.
import Derived.Test.YtpioelilfhkfdaaXAllx0
namespace Go.Proofs.Ytpioelilfhkfdaa.XAll
open Go.RowKit Go.Proofs.YtpioelilfhkfdaaW.PrintWords Go.Proofs.YtpioelilfhkfdaaW.PrintLast Go.Proofs.YtpioelilfhkfdaaW.PrintMore
attribute [local go_sem] max2_int min2_int max_two min_two max_three min_three max_four min_four   -- for this text's walks alone
set_option linter.unusedVariables false
set_option linter.unusedSimpArgs false

/-! ### slices_Clone_int_int: function 74 -/
def slices_Clone_int_int.f (l0 : List Int) : Option (List Int) := if l0.length < 17592186044416 then some l0 else none
theorem cloneI_info : (Try.prog.info? 3).map (fun i => (i.zero, i.size, i.bytes)) = some (some (.int .i64 0), 1, 8) := by kernel_rfl
theorem cloneI_KM (w W : World) (base : Nat) (ok : Nat → Prop) : ∀ (x : Int) cs, (Kd.int .i64).K w x cs → (Kd.int .i64).M W base ok x cs := fun x cs h => h
set_option maxHeartbeats 1000000 in
theorem slices_Clone_int_int.calls (A0 : Option Addr) (c0 : Nat) (l0 : List Int) (r : List Int) (w : World) (hr0 : Kd.C (Kd.int .i64) w A0 l0.length l0) (hc0 : l0.length ≤ c0) (h : slices_Clone_int_int.f l0 = some r) :
  Calls Try.prog 74 #[.slice A0 l0.length c0] w fun e w' => ∃ v0_ : Value, e = .returned v0_ ∧ Kd.R (Kd.int .i64) 3 w' w.heap.size (fun _ => True) v0_ r ∧ Below w.heap.size w w' := by
 unfold slices_Clone_int_int.f at h
 have hlt : l0.length < 17592186044416 := by
  apply Classical.byContradiction
  intro hn
  rw [if_neg hn] at h
  exact absurd h (by simp)
 rw [if_pos hlt] at h
 obtain rfl := Option.some.inj h
 clear h
 have HLT := qo hlt
 have HR := qo hr0
 clear hlt hr0 hc0
 have heq := fun W => Lib.run_eql_slice_nil (P := Try.prog) W 22 3 A0 l0.length c0 0 0 Try.underlying22
 cases A0 with
 | none =>
  have h0 : l0 = [] := by
   apply List.eq_nil_of_length_eq_zero
   rcases Nat.eq_zero_or_pos l0.length with h | h
   ·exact h
   ·obtain ⟨ad, e, _⟩ := HR.out.2.2 h
    cases e
  have H0 := qo h0
  clear h0
  go_enter Try.func74, Try.ntmps74
  go_wp2_with fail
  go_ret
  exact ⟨_, rfl, by rw [H0.out]; exact Kd.R_nil _ _ _ _ _, qaj _ _⟩
 | some ad =>
  have hlim : (0 + l0.length) * 8 ≤ 140737488355328 := by have := HLT.out; omega
  have HLIM := qo hlim
  clear hlim
  have ho : Kd.R (Kd.int .i64) 3 (w.alloc (.cells #[] 3)) w.heap.size (fun _ => True) (.slice (some ⟨w.heap.size, 0, none⟩) 0 0) [] :=
   ⟨fun _ _ => trivial, [], by simpa using World.ownsRow_lit (base := w.heap.size) (e := 3) (size := (Kd.int .i64).sz) w #[] 0 (Nat.le_refl _) (by simp [maxLen]) rfl, ⟨rfl, fun j p hj => by simp at hj⟩⟩
  have HO := qo ho
  have hb : Below w.heap.size w (w.alloc (.cells #[] 3)) := qc (qaj _ _) _
  have HB := qo hb
  clear ho hb
  go_enter Try.func74, Try.ntmps74
  go_wp2_with ((with_reducible refine gate_dst (N := 7) rfl ?_); go_loud (refine Kd.R_append_rows (Kd.int .i64) (w0 := w) (Rr := (Kd.int .i64).K w) w.heap.size rfl (.tmp 5) (.tmp 6) 22 3 _ 8 rfl Try.underlying22 cloneI_info rfl (by decide) (by omega) (.slice (some ⟨w.heap.size, 0, none⟩) 0 0) [] l0 _ _ _ (fun _ => True) (fun k => k < w.heap.size) rfl rfl HO.out (HR.out.imp_ HB.out (fun _ _ h => h)) (cloneI_KM _ _ _ _) (fun k hk => ⟨trivial, fun e => by have hk' : k < w.heap.size := hk; simp [Value.ownBlock] at e; omega⟩) (fun _ _ => trivial) HB.out HB.out.size HLIM.out ?_); intro v2 w2 ho2 hb2 hg2 hat2; clear hg2 hat2; have HO2 := qo ho2; have HB2 := qo hb2; clear ho2 hb2)
  go_ret
  exact ⟨_, rfl, by simpa using HO2.out, HB2.out⟩

/-! ### arith_Mod: function 84 -/
def arith_Mod.f (a0 : Int) (a1 : Int) : Option (Int) := if a1 < 1 then (some 0) else (if a1 = 0 then (none) else (if (Int.tmod a0 a1) < 0 then (some (wrap64 ((Int.tmod a0 a1) + a1))) else (some (Int.tmod a0 a1))))
set_option maxHeartbeats 8000000 in
set_option maxRecDepth 100000 in
theorem arith_Mod.calls (a0 : Int) (a1 : Int) (r : Int) (w : World) (h : arith_Mod.f a0 a1 = some r) :
  Calls Try.prog 84 #[.int .i64 a0, .int .i64 a1] w fun e w' => e = .returned (.int .i64 r) ∧ Drawn0 w w' := by
 have H : (if a1 < 1 then (some 0) else (if a1 = 0 then (none) else (if (Int.tmod a0 a1) < 0 then (some (wrap64 ((Int.tmod a0 a1) + a1))) else (some (Int.tmod a0 a1))))) = some r := h
 clear h
 by_cases c3 : a1 < 1
 ·rw [if_pos c3] at H
  have c3b0 : decide (a1 < 1) = true := qac c3
  clear c3
  obtain rfl := Option.some.inj H
  go_enter Try.func84, Try.ntmps84
  go_wp2
  go_ret
  exact ⟨by first | rfl | (simp; done) | (simp [*]; done), by repeat (first | exact Drawn0.refl _ | apply Drawn0.step)⟩
 ·rw [if_neg c3] at H
  have c3b0 : decide (a1 < 1) = false := qad c3
  clear c3
  by_cases c4 : a1 = 0
  ·rw [if_pos c4] at H
   exact absurd H (by simp)
  ·rw [if_neg c4] at H
   have c4b0 : (a1 == 0) = false := beq_eq_false_iff_ne.mpr c4
   have c4b1 : (a1 != 0) = true := bne_iff_ne.mpr c4
   by_cases c5 : (Int.tmod a0 a1) < 0
   ·rw [if_pos c5] at H
    have c5b0 : decide ((Int.tmod a0 a1) < 0) = true := qac c5
    clear c5
    obtain rfl := Option.some.inj H
    go_enter Try.func84, Try.ntmps84
    go_wp2
    go_ret
    exact ⟨by first | rfl | (simp; done) | (simp [*]; done), by repeat (first | exact Drawn0.refl _ | apply Drawn0.step)⟩
   ·rw [if_neg c5] at H
    have c5b0 : decide ((Int.tmod a0 a1) < 0) = false := qad c5
    clear c5
    obtain rfl := Option.some.inj H
    go_enter Try.func84, Try.ntmps84
    go_wp2
    go_ret
    exact ⟨by first | rfl | (simp; done) | (simp [*]; done), by repeat (first | exact Drawn0.refl _ | apply Drawn0.step)⟩

/-! ### network_Lasts: function 83 -/
def network_Lasts.f (a0 : Int) (a1_0 : Int) (a1_1 : Int) (a1_2 : Int) (a1_3 : Int) (a1_4 : Int) (a1_5 : Int) (a2 : Int) (a3 : Int) : Option (Int) := (arith_Mod.f (wrap64 ((wrap64 (a3 - a2)) - a1_3)) a0).bind fun t116 => (some (wrap64 (a1_3 + t116)))
set_option maxHeartbeats 8000000 in
set_option maxRecDepth 100000 in
theorem network_Lasts.calls (a0 : Int) (a1_0 : Int) (a1_1 : Int) (a1_2 : Int) (a1_3 : Int) (a1_4 : Int) (a1_5 : Int) (a2 : Int) (a3 : Int) (r : Int) (w : World) (h : network_Lasts.f a0 a1_0 a1_1 a1_2 a1_3 a1_4 a1_5 a2 a3 = some r) :
  Calls Try.prog 83 #[.int .i64 a0, .agg #[.int .i64 a1_0, .int .i64 a1_1, .int .i64 a1_2, .int .i64 a1_3, .int .i64 a1_4, .int .i64 a1_5], .int .i64 a2, .int .i64 a3] w fun e w' => e = .returned (.int .i64 r) ∧ Below w.heap.size w w' := by
 have hu62 := Try.underlying62
 have HB := qo (qaj w.heap.size w)
 have H : ((arith_Mod.f (wrap64 ((wrap64 (a3 - a2)) - a1_3)) a0).bind fun t116 => (some (wrap64 (a1_3 + t116)))) = some r := h
 clear h
 replace H := Option.bind_eq_some_iff.mp H
 obtain ⟨t116, A50, H⟩ := H
 replace H : (some (wrap64 (a1_3 + t116))) = some r := H
 have A5 := qo A50
 clear A50
 obtain rfl := Option.some.inj H
 go_enter Try.func83, Try.ntmps83
 go_wp2_with (first | ((with_reducible refine gate_dst (N := 5) rfl ?_); refine box_event ?hg (N := 5) ?hd (cs := #[.int .i64 a1_0, .int .i64 a1_1, .int .i64 a1_2, .int .i64 a1_3, .int .i64 a1_4, .int .i64 a1_5]) (t := 62) ?hr ?_; (case hd => rfl); (case hg => rfl); (case hr => first | (go_simp; done) | (go_simp; rfl)); intro gb115 hg w6 hbox hb; have n0_ := qo (qt (by repeat (first | (with_reducible first | exact HB.out | apply qc | apply qb | apply qd) | exact HB.out)) hb); have n1_ := qo (hbox); have n2_ := qo ((by rw [hg]; exact (qu (by repeat (first | (with_reducible first | exact HB.out | apply qc | apply qb | apply qd) | exact HB.out))) : w.heap.size ≤ gb115)); have n3_ := qo ((by rw [hg]; exact (qu (by repeat (first | (with_reducible first | exact HB.out | apply qc | apply qb | apply qd) | exact HB.out))) : w.heap.size ≤ gb115)); clear HB; have HB := n0_; have BK115 := n1_; have GW115 := n2_; have GE115 := n3_; clear n0_ n1_ n2_ n3_; clear hb hbox hg; have hcz7_0 : w6.cell? ⟨gb115, 0, none⟩ = some (.int .i64 a1_0) := (qe BK115.out 0).trans rfl; have hcz7_1 : w6.cell? ⟨gb115, 1, none⟩ = some (.int .i64 a1_1) := (qe BK115.out 1).trans rfl; have hcz7_2 : w6.cell? ⟨gb115, 2, none⟩ = some (.int .i64 a1_2) := (qe BK115.out 2).trans rfl; have hcz7_3 : w6.cell? ⟨gb115, 3, none⟩ = some (.int .i64 a1_3) := (qe BK115.out 3).trans rfl; have hcz7_4 : w6.cell? ⟨gb115, 4, none⟩ = some (.int .i64 a1_4) := (qe BK115.out 4).trans rfl; have hcz7_5 : w6.cell? ⟨gb115, 5, none⟩ = some (.int .i64 a1_5) := (qe BK115.out 5).trans rfl; have hfz7_0 := qf BK115.out 0; have hfz7_1 := qf BK115.out 1; have hfz7_2 := qf BK115.out 2; have hfz7_3 := qf BK115.out 3; have hfz7_4 := qf BK115.out 4; have hfz7_5 := qf BK115.out 5) | (go_at_call 84; (with_reducible refine (arith_Mod.calls (wrap64 ((wrap64 (a3 - a2)) - a1_3)) a0 t116 _ A5.out).mono ?_); rintro e w' ⟨rfl, ⟨nd, rfl⟩⟩; (try first | exact ⟨rfl, _, World.drewN_drewN _ _ _⟩ | exact ⟨rfl, _, Eq.trans (World.drewN_drewN _ _ _) (congrArg (World.drewN _) (Nat.add_assoc _ _ _))⟩)))
 repeat (go_quiet (first | ((with_reducible refine gate_dst (N := 5) rfl ?_); refine box_event ?hg (N := 5) ?hd (cs := #[.int .i64 a1_0, .int .i64 a1_1, .int .i64 a1_2, .int .i64 a1_3, .int .i64 a1_4, .int .i64 a1_5]) (t := 62) ?hr ?_; (case hd => rfl); (case hg => rfl); (case hr => first | (go_simp; done) | (go_simp; rfl)); intro gb115 hg w6 hbox hb; have n0_ := qo (qt (by repeat (first | (with_reducible first | exact HB.out | apply qc | apply qb | apply qd) | exact HB.out)) hb); have n1_ := qo (hbox); have n2_ := qo ((by rw [hg]; exact (qu (by repeat (first | (with_reducible first | exact HB.out | apply qc | apply qb | apply qd) | exact HB.out))) : w.heap.size ≤ gb115)); have n3_ := qo ((by rw [hg]; exact (qu (by repeat (first | (with_reducible first | exact HB.out | apply qc | apply qb | apply qd) | exact HB.out))) : w.heap.size ≤ gb115)); clear HB; have HB := n0_; have BK115 := n1_; have GW115 := n2_; have GE115 := n3_; clear n0_ n1_ n2_ n3_; clear hb hbox hg; have hcz7_0 : w6.cell? ⟨gb115, 0, none⟩ = some (.int .i64 a1_0) := (qe BK115.out 0).trans rfl; have hcz7_1 : w6.cell? ⟨gb115, 1, none⟩ = some (.int .i64 a1_1) := (qe BK115.out 1).trans rfl; have hcz7_2 : w6.cell? ⟨gb115, 2, none⟩ = some (.int .i64 a1_2) := (qe BK115.out 2).trans rfl; have hcz7_3 : w6.cell? ⟨gb115, 3, none⟩ = some (.int .i64 a1_3) := (qe BK115.out 3).trans rfl; have hcz7_4 : w6.cell? ⟨gb115, 4, none⟩ = some (.int .i64 a1_4) := (qe BK115.out 4).trans rfl; have hcz7_5 : w6.cell? ⟨gb115, 5, none⟩ = some (.int .i64 a1_5) := (qe BK115.out 5).trans rfl; have hfz7_0 := qf BK115.out 0; have hfz7_1 := qf BK115.out 1; have hfz7_2 := qf BK115.out 2; have hfz7_3 := qf BK115.out 3; have hfz7_4 := qf BK115.out 4; have hfz7_5 := qf BK115.out 5) | (go_at_call 84; (with_reducible refine (arith_Mod.calls (wrap64 ((wrap64 (a3 - a2)) - a1_3)) a0 t116 _ A5.out).mono ?_); rintro e w' ⟨rfl, ⟨nd, rfl⟩⟩; (try first | exact ⟨rfl, _, World.drewN_drewN _ _ _⟩ | exact ⟨rfl, _, Eq.trans (World.drewN_drewN _ _ _) (congrArg (World.drewN _) (Nat.add_assoc _ _ _))⟩))); try go_wp2_with (first | ((with_reducible refine gate_dst (N := 5) rfl ?_); refine box_event ?hg (N := 5) ?hd (cs := #[.int .i64 a1_0, .int .i64 a1_1, .int .i64 a1_2, .int .i64 a1_3, .int .i64 a1_4, .int .i64 a1_5]) (t := 62) ?hr ?_; (case hd => rfl); (case hg => rfl); (case hr => first | (go_simp; done) | (go_simp; rfl)); intro gb115 hg w6 hbox hb; have n0_ := qo (qt (by repeat (first | (with_reducible first | exact HB.out | apply qc | apply qb | apply qd) | exact HB.out)) hb); have n1_ := qo (hbox); have n2_ := qo ((by rw [hg]; exact (qu (by repeat (first | (with_reducible first | exact HB.out | apply qc | apply qb | apply qd) | exact HB.out))) : w.heap.size ≤ gb115)); have n3_ := qo ((by rw [hg]; exact (qu (by repeat (first | (with_reducible first | exact HB.out | apply qc | apply qb | apply qd) | exact HB.out))) : w.heap.size ≤ gb115)); clear HB; have HB := n0_; have BK115 := n1_; have GW115 := n2_; have GE115 := n3_; clear n0_ n1_ n2_ n3_; clear hb hbox hg; have hcz7_0 : w6.cell? ⟨gb115, 0, none⟩ = some (.int .i64 a1_0) := (qe BK115.out 0).trans rfl; have hcz7_1 : w6.cell? ⟨gb115, 1, none⟩ = some (.int .i64 a1_1) := (qe BK115.out 1).trans rfl; have hcz7_2 : w6.cell? ⟨gb115, 2, none⟩ = some (.int .i64 a1_2) := (qe BK115.out 2).trans rfl; have hcz7_3 : w6.cell? ⟨gb115, 3, none⟩ = some (.int .i64 a1_3) := (qe BK115.out 3).trans rfl; have hcz7_4 : w6.cell? ⟨gb115, 4, none⟩ = some (.int .i64 a1_4) := (qe BK115.out 4).trans rfl; have hcz7_5 : w6.cell? ⟨gb115, 5, none⟩ = some (.int .i64 a1_5) := (qe BK115.out 5).trans rfl; have hfz7_0 := qf BK115.out 0; have hfz7_1 := qf BK115.out 1; have hfz7_2 := qf BK115.out 2; have hfz7_3 := qf BK115.out 3; have hfz7_4 := qf BK115.out 4; have hfz7_5 := qf BK115.out 5) | (go_at_call 84; (with_reducible refine (arith_Mod.calls (wrap64 ((wrap64 (a3 - a2)) - a1_3)) a0 t116 _ A5.out).mono ?_); rintro e w' ⟨rfl, ⟨nd, rfl⟩⟩; (try first | exact ⟨rfl, _, World.drewN_drewN _ _ _⟩ | exact ⟨rfl, _, Eq.trans (World.drewN_drewN _ _ _) (congrArg (World.drewN _) (Nat.add_assoc _ _ _))⟩))))
 go_ret
 exact ⟨by first | rfl | (simp [errW_none, errW_some] <;> rfl) | (simp [*, errW_none, errW_some] <;> rfl), by repeat (first | (with_reducible first | exact HB.out | apply qc | apply qb | apply qd | refine qn ?_ GE115.out) | exact HB.out)⟩

end Go.Proofs.Ytpioelilfhkfdaa.XAll
