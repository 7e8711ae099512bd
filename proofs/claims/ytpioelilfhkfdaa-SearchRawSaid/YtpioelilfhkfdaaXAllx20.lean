-- This session's own text, written by wip/tools/xall.py after the form of the kit's print.
import Derived.Test.YtpioelilfhkfdaaXAllx0
import Derived.Test.YtpioelilfhkfdaaXAllx1
import Derived.Test.YtpioelilfhkfdaaXAllx8
import Derived.Test.YtpioelilfhkfdaaXAllx9
import Derived.Test.YtpioelilfhkfdaaXAllx12
import Derived.Test.YtpioelilfhkfdaaXAllx13
import Derived.Test.YtpioelilfhkfdaaXAllx18
import Derived.Test.YtpioelilfhkfdaaXAllx19
namespace Go.Proofs.Ytpioelilfhkfdaa.XAll
open Go.RowKit Go.Proofs.YtpioelilfhkfdaaW.PrintWords Go.Proofs.YtpioelilfhkfdaaW.PrintLast Go.Proofs.YtpioelilfhkfdaaW.PrintMore
attribute [local go_sem] max2_int min2_int max_two min_two max_three min_three max_four min_four   -- for this text's walks alone
set_option linter.unusedVariables false
set_option linter.unusedSimpArgs false

/-! ### railplanref17_Solve: function 42 -/
/-- What Solve makes of the reference's state. -/
def routS (st : RSt) : List Int × Int × Int × Int := if st.over = true then ([], 0, 0, 15) else if st.found = true then (st.res, st.best, st.used, 0) else ([], 0, st.used, 14)
def railplanref17_Solve.f (k : Nat) (P : Int) (le : List S60) (ac : List S62) (budget : Int) : Option (List Int × Int × Int × Int) :=
 if k < 600 then none else if okNet P le ac = true then (if 1 ≤ budget ∧ budget ≤ 1048576 then (railplanref11_Components.f k P le ac).bind fun comp => if comp.length = le.length then some (routS (rstF P le ac comp budget true)) else none else some (([] : List Int), 0, 0, 4)) else some (([] : List Int), 0, 0, 1)
theorem railplanref17_Solve.mono : ∀ P le ac budget k, LeO (railplanref17_Solve.f k P le ac budget) (railplanref17_Solve.f (k + 1) P le ac budget) := by
 intro P le ac budget k
 unfold railplanref17_Solve.f
 by_cases hk : k < 600
 ·rw [if_pos hk]; exact LeO.none _
 ·rw [if_neg hk, if_neg (show ¬ k + 1 < 600 by omega)]
  refine LeO.ite (LeO.ite ?_ (LeO.refl _)) (LeO.refl _)
  exact LeO.bind (railplanref11_Components.mono _ _ _ _) (fun _ => LeO.refl _)
set_option maxHeartbeats 4000000 in
set_option maxRecDepth 100000 in
theorem railplanref17_Solve.calls (k : Nat) (P : Int) (A1 : Option Addr) (c1 : Nat) (le : List S60) (A2 : Option Addr) (c2 : Nat) (ac : List S62) (budget : Int) (r1 : List Int) (r2 r3 r4 : Int) (w : World) (hr1 : Kd.C k60 w A1 le.length le) (hc1 : le.length ≤ c1) (hr2 : Kd.C k62 w A2 ac.length ac) (hc2 : ac.length ≤ c2) (h : railplanref17_Solve.f k P le ac budget = some (r1, r2, r3, r4)) :
  Calls Try.prog 42 #[.agg #[.int .i64 P, .slice A1 le.length c1, .slice A2 ac.length c2], .int .i64 budget] w fun e w' => ∃ v0_ : Value, e = .returned (.tuple #[v0_, .int .i64 r2, .int .i64 r3, .int .i64 r4]) ∧ Kd.R (Kd.int .i64) 3 w' w.heap.size (fun _ => True) v0_ r1 ∧ Below w.heap.size w w' := by
 have hb0 := qc (qaj w.heap.size w) (.cells #[.int .i64 P, .slice A1 le.length c1, .slice A2 ac.length c2] 26)
 have HB0 := qo hb0
 have hq1 := qs hr1 hb0
 have hq2 := qs hr2 hb0
 clear hb0
 unfold railplanref17_Solve.f at h
 by_cases hk : k < 600
 ·rw [if_pos hk] at h; exact absurd h (by simp)
 rw [if_neg hk] at h
 by_cases hok : okNet P le ac = true
 ·rw [if_pos hok] at h
  by_cases hbd : 1 ≤ budget ∧ budget ≤ 1048576
  ·rw [if_pos hbd] at h
   cases hcf : railplanref11_Components.f k P le ac with
   | none => rw [hcf] at h; exact absurd h (by simp)
   | some comp =>
    rw [hcf] at h
    have h' : (if comp.length = le.length then some (routS (rstF P le ac comp budget true)) else none) = some (r1, r2, r3, r4) := h
    clear h
    by_cases hcl : comp.length = le.length
    ·rw [if_pos hcl] at h'
     have hout := Option.some.inj h'
     have HRUN := qo (refrun_yes k P A1 c1 le A2 c2 ac budget true comp _ hq1 hc1 hq2 hc2 (by omega) hok hbd hcf hcl)
     generalize rstF P le ac comp budget true = st at hout HRUN
     generalize newF comp le.length le.length = fs at HRUN
     obtain ⟨used, ts, over, found, res, best⟩ := st
     clear h' hcf hcl hok hbd hk hr1 hr2 hq1 hq2 hc1 hc2
     cases over with
     | true =>
      obtain ⟨rfl, rfl, rfl, rfl⟩ : ([] : List Int) = r1 ∧ (0 : Int) = r2 ∧ (0 : Int) = r3 ∧ (15 : Int) = r4 := by simpa [routS] using hout
      clear hout
      go_enter Try.func42, Try.ntmps42
      go_wp2_with (go_at_call 46; refine HRUN.out.mono ?_; rintro e w1 ⟨pv, rfl, hb, hx⟩; rw [show rcode ⟨used, ts, true, found, res, best⟩ = 15 from rfl]; have HB1 := qo (qt HB0.out hb); clear hb hx)
      ((try simp only [Exit.inBlock, Exit.then]); refine bodyPost_ret (results_tmp4 rfl _ _ _) rfl ?_)
      exact ⟨_, rfl, Kd.R_nil _ _ _ _ _, HB1.out⟩
     | false =>
      cases found with
      | true =>
       obtain ⟨rfl, rfl, rfl, rfl⟩ : res = r1 ∧ best = r2 ∧ used = r3 ∧ (0 : Int) = r4 := by simpa [routS] using hout
       clear hout
       go_enter Try.func42, Try.ntmps42
       go_wp2_with (go_at_call 46; refine HRUN.out.mono ?_; rintro e w1 ⟨pv, rfl, hb, hx⟩; rw [show rcode ⟨used, ts, false, true, res, best⟩ = 0 from rfl] at hx ⊢; obtain ⟨g, T, Af, cf, rfl, hf⟩ := hx (.inl rfl); obtain ⟨vS, q1, q2, q3⟩ := hf; obtain ⟨As, cs, rfl⟩ := qak q3; have c5 := (qe q1 5).trans rfl; have c9 := (qe q1 9).trans rfl; have c10 := (qe q1 10).trans rfl; have HR3 := qo q3; have HB1 := qo (qt HB0.out hb); clear hb hx q1 q2 q3)
       repeat (go_quiet (fail); try go_wp2_with fail)
       ((try simp only [Exit.inBlock, Exit.then]); refine bodyPost_ret (results_tmp4 rfl _ _ _) rfl ?_)
       exact ⟨_, rfl, qy (qag (qg HR3.out _) HB0.out.size) (fun _ _ => trivial), qb HB1.out _⟩
      | false =>
       obtain ⟨rfl, rfl, rfl, rfl⟩ : ([] : List Int) = r1 ∧ (0 : Int) = r2 ∧ used = r3 ∧ (14 : Int) = r4 := by simpa [routS] using hout
       clear hout
       go_enter Try.func42, Try.ntmps42
       go_wp2_with (go_at_call 46; refine HRUN.out.mono ?_; rintro e w1 ⟨pv, rfl, hb, hx⟩; rw [show rcode ⟨used, ts, false, false, res, best⟩ = 14 from rfl] at hx ⊢; obtain ⟨g, T, Af, cf, rfl, hf⟩ := hx (.inr rfl); obtain ⟨vS, q1, q2, q3⟩ := hf; obtain ⟨As, cs, rfl⟩ := qak q3; have c5 := (qe q1 5).trans rfl; have c9 := (qe q1 9).trans rfl; have c10 := (qe q1 10).trans rfl; have HR3 := qo q3; have HB1 := qo (qt HB0.out hb); clear hb hx q1 q2 q3)
       repeat (go_quiet (fail); try go_wp2_with fail)
       ((try simp only [Exit.inBlock, Exit.then]); refine bodyPost_ret (results_tmp4 rfl _ _ _) rfl ?_)
       exact ⟨_, rfl, Kd.R_nil _ _ _ _ _, qb HB1.out _⟩
    ·rw [if_neg hcl] at h'; exact absurd h' (by simp)
  ·rw [if_neg hbd] at h
   have h2 := Option.some.inj h
   simp only [Prod.mk.injEq] at h2
   obtain ⟨rfl, rfl, rfl, rfl⟩ := h2
   have HRUN := qo (refrun_no k P A1 c1 le A2 c2 ac budget true [] ⟨0, [], false, false, [], 0⟩ _ hq1 hc1 hq2 hc2 (by omega) (.inr (by omega)))
   rw [if_pos hok] at HRUN
   clear h hok hbd hk hr1 hr2 hq1 hq2 hc1 hc2
   go_enter Try.func42, Try.ntmps42
   go_wp2_with (go_at_call 46; refine HRUN.out.mono ?_; rintro e w1 ⟨pv, rfl, hb, hx⟩; have HB1 := qo (qt HB0.out hb); clear hb hx)
   ((try simp only [Exit.inBlock, Exit.then]); refine bodyPost_ret (results_tmp4 rfl _ _ _) rfl ?_)
   exact ⟨_, rfl, Kd.R_nil _ _ _ _ _, HB1.out⟩
 ·rw [if_neg hok] at h
  have h2 := Option.some.inj h
  simp only [Prod.mk.injEq] at h2
  obtain ⟨rfl, rfl, rfl, rfl⟩ := h2
  have HRUN := qo (refrun_no k P A1 c1 le A2 c2 ac budget true [] ⟨0, [], false, false, [], 0⟩ _ hq1 hc1 hq2 hc2 (by omega) (.inl (by simpa using hok)))
  rw [if_neg hok] at HRUN
  clear h hok hk hr1 hr2 hq1 hq2 hc1 hc2
  go_enter Try.func42, Try.ntmps42
  go_wp2_with (go_at_call 46; refine HRUN.out.mono ?_; rintro e w1 ⟨pv, rfl, hb, hx⟩; have HB1 := qo (qt HB0.out hb); clear hb hx)
  ((try simp only [Exit.inBlock, Exit.then]); refine bodyPost_ret (results_tmp4 rfl _ _ _) rfl ?_)
  exact ⟨_, rfl, Kd.R_nil _ _ _ _ _, HB1.out⟩

/-! ### railplanlaw17_agrees: function 22 -/
def railplanlaw17_agrees.f (k : Nat) (a0_0 : Int) (l0_1 : List (S60)) (l0_2 : List (S62)) (a1 : Int) : Option (Bool) := (search_Feasible.f k a0_0 l0_1 l0_2 a1).bind fun bt198 => ((railplanref17_Feasible.f k a0_0 l0_1 l0_2 a1).bind fun bt203 => ((search_Solve.f k a0_0 l0_1 l0_2 a1).bind fun bt208 => ((railplanref17_Solve.f k a0_0 l0_1 l0_2 a1).bind fun bt214 => ((railplankeep_Same_int.f k bt198.1 bt203.1).bind fun t220 => (if t220 = true then (if bt198.2.1 = bt203.2.1 then (if bt198.2.2 = bt203.2.2 then ((railplankeep_Same_int.f k bt208.1 bt214.1).bind fun t221 => (if t221 = true then (if bt208.2.1 = bt214.2.1 then (if bt208.2.2.1 = bt214.2.2.1 then (some (bt208.2.2.2 == bt214.2.2.2)) else (some false)) else (some false)) else (some false))) else (some false)) else (some false)) else (some false))))))
theorem railplanlaw17_agrees.mono : ∀ a0 a1 a2 a3 k, LeO (railplanlaw17_agrees.f k a0 a1 a2 a3) (railplanlaw17_agrees.f (k + 1) a0 a1 a2 a3) := by
 intro a0 a1 a2 a3 k
 unfold railplanlaw17_agrees.f
 repeat' first
   | (with_reducible exact railplankeep_Same_int.mono _ _ _)
   | (with_reducible exact railplanref17_Feasible.mono _ _ _ _ _)
   | (with_reducible exact railplanref17_Solve.mono _ _ _ _ _)
   | (with_reducible exact search_Feasible.mono _ _ _ _ _)
   | (with_reducible exact search_Solve.mono _ _ _ _ _)
   | (with_reducible exact LeO.refl _)
   | (with_reducible exact LeO.none _)
   | (with_reducible refine LeO.ite ?_ ?_)
   | (with_reducible refine LeO.bind ?_ (fun _ => ?_))
   | exact railplankeep_Same_int.mono _ _ _
   | exact railplanref17_Feasible.mono _ _ _ _ _
   | exact railplanref17_Solve.mono _ _ _ _ _
   | exact search_Feasible.mono _ _ _ _ _
   | exact search_Solve.mono _ _ _ _ _
   | exact LeO.none _
   | refine LeO.ite ?_ ?_
   | refine LeO.bind ?_ (fun _ => ?_)
set_option maxHeartbeats 8000000 in
set_option maxRecDepth 100000 in
theorem railplanlaw17_agrees.calls (k : Nat) (a0_0 : Int) (A0_1 : Option Addr) (c0_1 : Nat) (l0_1 : List (S60)) (A0_2 : Option Addr) (c0_2 : Nat) (l0_2 : List (S62)) (a1 : Int) (r : Bool) (w : World) (hr0_1 : Kd.C k60 w A0_1 l0_1.length l0_1) (hc0_1 : l0_1.length ≤ c0_1) (hr0_2 : Kd.C k62 w A0_2 l0_2.length l0_2) (hc0_2 : l0_2.length ≤ c0_2) (h : railplanlaw17_agrees.f k a0_0 l0_1 l0_2 a1 = some r) (hT : Aside0 (r = true)) :
  Calls Try.prog 22 #[.agg #[.int .i64 a0_0, .slice A0_1 l0_1.length c0_1, .slice A0_2 l0_2.length c0_2], .int .i64 a1] w fun e w' => e = .returned (.bool r) ∧ Below w.heap.size w w' := by
 have hu26 := Try.underlying26
 have HR0_1 := qo hr0_1
 have HC0_1 := qo hc0_1
 clear hr0_1 hc0_1
 have HR0_2 := qo hr0_2
 have HC0_2 := qo hc0_2
 clear hr0_2 hc0_2
 have HB := qo (qaj w.heap.size w)
 have H : ((search_Feasible.f k a0_0 l0_1 l0_2 a1).bind fun bt198 => ((railplanref17_Feasible.f k a0_0 l0_1 l0_2 a1).bind fun bt203 => ((search_Solve.f k a0_0 l0_1 l0_2 a1).bind fun bt208 => ((railplanref17_Solve.f k a0_0 l0_1 l0_2 a1).bind fun bt214 => ((railplankeep_Same_int.f k bt198.1 bt203.1).bind fun t220 => (if t220 = true then (if bt198.2.1 = bt203.2.1 then (if bt198.2.2 = bt203.2.2 then ((railplankeep_Same_int.f k bt208.1 bt214.1).bind fun t221 => (if t221 = true then (if bt208.2.1 = bt214.2.1 then (if bt208.2.2.1 = bt214.2.2.1 then (some (bt208.2.2.2 == bt214.2.2.2)) else (some false)) else (some false)) else (some false))) else (some false)) else (some false)) else (some false))))))) = some r := h
 clear h
 replace H := Option.bind_eq_some_iff.mp H
 obtain ⟨⟨t198, t201, t202⟩, A30, H⟩ := H
 replace H : ((railplanref17_Feasible.f k a0_0 l0_1 l0_2 a1).bind fun bt203 => ((search_Solve.f k a0_0 l0_1 l0_2 a1).bind fun bt208 => ((railplanref17_Solve.f k a0_0 l0_1 l0_2 a1).bind fun bt214 => ((railplankeep_Same_int.f k t198 bt203.1).bind fun t220 => (if t220 = true then (if t201 = bt203.2.1 then (if t202 = bt203.2.2 then ((railplankeep_Same_int.f k bt208.1 bt214.1).bind fun t221 => (if t221 = true then (if bt208.2.1 = bt214.2.1 then (if bt208.2.2.1 = bt214.2.2.1 then (some (bt208.2.2.2 == bt214.2.2.2)) else (some false)) else (some false)) else (some false))) else (some false)) else (some false)) else (some false)))))) = some r := H
 have A3 := qo A30
 clear A30
 replace H := Option.bind_eq_some_iff.mp H
 obtain ⟨⟨t203, t206, t207⟩, A40, H⟩ := H
 replace H : ((search_Solve.f k a0_0 l0_1 l0_2 a1).bind fun bt208 => ((railplanref17_Solve.f k a0_0 l0_1 l0_2 a1).bind fun bt214 => ((railplankeep_Same_int.f k t198 t203).bind fun t220 => (if t220 = true then (if t201 = t206 then (if t202 = t207 then ((railplankeep_Same_int.f k bt208.1 bt214.1).bind fun t221 => (if t221 = true then (if bt208.2.1 = bt214.2.1 then (if bt208.2.2.1 = bt214.2.2.1 then (some (bt208.2.2.2 == bt214.2.2.2)) else (some false)) else (some false)) else (some false))) else (some false)) else (some false)) else (some false))))) = some r := H
 have A4 := qo A40
 clear A40
 replace H := Option.bind_eq_some_iff.mp H
 obtain ⟨⟨t208, t211, t212, t213⟩, A50, H⟩ := H
 replace H : ((railplanref17_Solve.f k a0_0 l0_1 l0_2 a1).bind fun bt214 => ((railplankeep_Same_int.f k t198 t203).bind fun t220 => (if t220 = true then (if t201 = t206 then (if t202 = t207 then ((railplankeep_Same_int.f k t208 bt214.1).bind fun t221 => (if t221 = true then (if t211 = bt214.2.1 then (if t212 = bt214.2.2.1 then (some (t213 == bt214.2.2.2)) else (some false)) else (some false)) else (some false))) else (some false)) else (some false)) else (some false)))) = some r := H
 have A5 := qo A50
 clear A50
 replace H := Option.bind_eq_some_iff.mp H
 obtain ⟨⟨t214, t217, t218, t219⟩, A60, H⟩ := H
 replace H : ((railplankeep_Same_int.f k t198 t203).bind fun t220 => (if t220 = true then (if t201 = t206 then (if t202 = t207 then ((railplankeep_Same_int.f k t208 t214).bind fun t221 => (if t221 = true then (if t211 = t217 then (if t212 = t218 then (some (t213 == t219)) else (some false)) else (some false)) else (some false))) else (some false)) else (some false)) else (some false))) = some r := H
 have A6 := qo A60
 clear A60
 replace H := Option.bind_eq_some_iff.mp H
 obtain ⟨t220, A70, H⟩ := H
 replace H : (if t220 = true then (if t201 = t206 then (if t202 = t207 then ((railplankeep_Same_int.f k t208 t214).bind fun t221 => (if t221 = true then (if t211 = t217 then (if t212 = t218 then (some (t213 == t219)) else (some false)) else (some false)) else (some false))) else (some false)) else (some false)) else (some false)) = some r := H
 have A7 := qo A70
 clear A70
 by_cases c8 : t220 = true
 ·subst c8
  have H1 : (if t201 = t206 then (if t202 = t207 then ((railplankeep_Same_int.f k t208 t214).bind fun t221 => (if t221 = true then (if t211 = t217 then (if t212 = t218 then (some (t213 == t219)) else (some false)) else (some false)) else (some false))) else (some false)) else (some false)) = some r := by rw [if_pos rfl] at H; exact H
  clear H
  have H := H1
  clear H1
  by_cases c9 : t201 = t206
  ·rw [if_pos c9] at H
   have c9b0 : (t201 == t206) = true := beq_iff_eq.mpr c9
   have c9b1 : (t201 != t206) = false := bne_eq_false_iff_eq.mpr c9
   clear c9
   by_cases c10 : t202 = t207
   ·rw [if_pos c10] at H
    have c10b0 : (t202 == t207) = true := beq_iff_eq.mpr c10
    have c10b1 : (t202 != t207) = false := bne_eq_false_iff_eq.mpr c10
    clear c10
    replace H := Option.bind_eq_some_iff.mp H
    obtain ⟨t221, A110, H⟩ := H
    replace H : (if t221 = true then (if t211 = t217 then (if t212 = t218 then (some (t213 == t219)) else (some false)) else (some false)) else (some false)) = some r := H
    have A11 := qo A110
    clear A110
    by_cases c12 : t221 = true
    ·subst c12
     have H1 : (if t211 = t217 then (if t212 = t218 then (some (t213 == t219)) else (some false)) else (some false)) = some r := by rw [if_pos rfl] at H; exact H
     clear H
     have H := H1
     clear H1
     by_cases c13 : t211 = t217
     ·rw [if_pos c13] at H
      have c13b0 : (t211 == t217) = true := beq_iff_eq.mpr c13
      have c13b1 : (t211 != t217) = false := bne_eq_false_iff_eq.mpr c13
      clear c13
      by_cases c14 : t212 = t218
      ·rw [if_pos c14] at H
       have c14b0 : (t212 == t218) = true := beq_iff_eq.mpr c14
       have c14b1 : (t212 != t218) = false := bne_eq_false_iff_eq.mpr c14
       clear c14
       obtain rfl := Option.some.inj H
       go_enter Try.func22, Try.ntmps22
       go_wp2_with (first | ((with_reducible refine gate_dst (N := 2) rfl ?_); refine box_event ?hg (N := 2) ?hd (cs := #[.int .i64 a0_0, .slice A0_1 l0_1.length c0_1, .slice A0_2 l0_2.length c0_2]) (t := 26) ?hr ?_; (case hd => rfl); (case hg => rfl); (case hr => first | (go_simp; done) | (go_simp; rfl)); intro gb197 hg w15 hbox hb; have n0_ := qo (qt (by repeat (first | (with_reducible first | exact HB.out | apply qc | apply qb | apply qd) | exact HB.out)) hb); have n1_ := qo (hbox); have n2_ := qo ((by rw [hg]; exact (qu (by repeat (first | (with_reducible first | exact HB.out | apply qc | apply qb | apply qd) | exact HB.out))) : w.heap.size ≤ gb197)); have n3_ := qo ((by rw [hg]; exact (qu (by repeat (first | (with_reducible first | exact HB.out | apply qc | apply qb | apply qd) | exact HB.out))) : w.heap.size ≤ gb197)); clear HB; have HB := n0_; have BK197 := n1_; have GW197 := n2_; have GE197 := n3_; clear n0_ n1_ n2_ n3_; clear hb hbox hg; have hcz16_0 : w15.cell? ⟨gb197, 0, none⟩ = some (.int .i64 a0_0) := (qe BK197.out 0).trans rfl; have hcz16_1 : w15.cell? ⟨gb197, 1, none⟩ = some (.slice A0_1 l0_1.length c0_1) := (qe BK197.out 1).trans rfl; have hcz16_2 : w15.cell? ⟨gb197, 2, none⟩ = some (.slice A0_2 l0_2.length c0_2) := (qe BK197.out 2).trans rfl; have hfz16_0 := qf BK197.out 0; have hfz16_1 := qf BK197.out 1; have hfz16_2 := qf BK197.out 2) | ((with_reducible refine gate_callee (f := 13) rfl ?_); refine goesL_ (some 22) rfl rfl Try.func13 (by kernel_rfl) rfl #[.agg #[.int .i64 a0_0, .slice A0_1 l0_1.length c0_1, .slice A0_2 l0_2.length c0_2], .int .i64 a1] rfl (by (try simp only [List.map_toArray, List.map_cons, List.map_nil]); first | done | rfl | (simp only [List.length_drop, List.length_take]; rfl)) ?_; (with_reducible refine (search_Feasible.calls k a0_0 _ _ l0_1 _ _ l0_2 a1 t198 t201 t202 _ ?side1 ?side2 ?side3 ?side4 A3.out).mono ?_); (case side1 => repeat (first | exact (qs HR0_1.out HB.out) | (with_reducible refine qv ?_ _) | (with_reducible refine qw ?_ _) | (with_reducible refine qx ?_))); (case side2 => exact HC0_1.out); (case side3 => repeat (first | exact (qs HR0_2.out HB.out) | (with_reducible refine qv ?_ _) | (with_reducible refine qw ?_ _) | (with_reducible refine qx ?_))); (case side4 => exact HC0_2.out); rintro e w17 ⟨v199, rfl, ho0, hb⟩; refine ⟨_, rfl, ?_⟩; have n0_ := qo (qag ho0 (qu (by repeat (first | (with_reducible first | exact HB.out | apply qc | apply qb | apply qd | refine qn ?_ GE197.out) | exact HB.out)))); have n1_ := qo (qaa (g := gb197) (o := .cells #[.int .i64 a0_0, .slice A0_1 l0_1.length c0_1, .slice A0_2 l0_2.length c0_2] 26 (0, 0)) (by (with_reducible repeat (first | refine ql ?_ _ | refine qm ?_ | refine qk ?_ _)); exact BK197.out) hb); have n2_ := qo (qt (by repeat (first | (with_reducible first | exact HB.out | apply qc | apply qb | apply qd | refine qn ?_ GE197.out) | exact HB.out)) hb); clear BK197; clear HB; have HO200 := n0_; have BK197 := n1_; have HB := n2_; clear n0_ n1_ n2_; (try clear hb); (try clear hb2); (try clear hk); (try clear hi); (try clear ho0); have hcz18_0 : w17.cell? ⟨gb197, 0, none⟩ = some (.int .i64 a0_0) := (qe BK197.out 0).trans rfl; have hcz18_1 : w17.cell? ⟨gb197, 1, none⟩ = some (.slice A0_1 l0_1.length c0_1) := (qe BK197.out 1).trans rfl; have hcz18_2 : w17.cell? ⟨gb197, 2, none⟩ = some (.slice A0_2 l0_2.length c0_2) := (qe BK197.out 2).trans rfl; have hfz18_0 := qf BK197.out 0; have hfz18_1 := qf BK197.out 1; have hfz18_2 := qf BK197.out 2) | ((with_reducible refine gate_callee (f := 28) rfl ?_); refine goesL_ (some 29) rfl rfl Try.func28 (by kernel_rfl) rfl #[.agg #[.int .i64 a0_0, .slice A0_1 l0_1.length c0_1, .slice A0_2 l0_2.length c0_2], .int .i64 a1] rfl (by (try simp only [List.map_toArray, List.map_cons, List.map_nil]); first | done | rfl | (simp only [List.length_drop, List.length_take]; rfl)) ?_; (with_reducible refine (railplanref17_Feasible.calls k a0_0 _ _ l0_1 _ _ l0_2 a1 t203 t206 t207 _ ?side1 ?side2 ?side3 ?side4 A4.out).mono ?_); (case side1 => repeat (first | exact (qs HR0_1.out HB.out) | (with_reducible refine qv ?_ _) | (with_reducible refine qw ?_ _) | (with_reducible refine qx ?_))); (case side2 => exact HC0_1.out); (case side3 => repeat (first | exact (qs HR0_2.out HB.out) | (with_reducible refine qv ?_ _) | (with_reducible refine qw ?_ _) | (with_reducible refine qx ?_))); (case side4 => exact HC0_2.out); rintro e w19 ⟨v204, rfl, ho0, hb⟩; refine ⟨_, rfl, ?_⟩; have n0_ := qo (Kd.R_elder' (by (with_reducible repeat (first | apply qh | apply qg | apply qi)); exact HO200.out) (by first | exact Kd.N_base ho0 | exact Kd.S_base ho0 | exact Kd.R_base ho0 | exact Kd.Q_base ho0) hb); have n1_ := qo (qag (Kd.R_new' ho0 (Kd.R_lt (by (with_reducible repeat (first | apply qh | apply qg | apply qi)); exact HO200.out))) (qu (by repeat (first | (with_reducible first | exact HB.out | apply qc | apply qb | apply qd | refine qn ?_ GE197.out) | exact HB.out)))); have n2_ := qo (qaa (g := gb197) (o := .cells #[.int .i64 a0_0, .slice A0_1 l0_1.length c0_1, .slice A0_2 l0_2.length c0_2] 26 (0, 0)) (by (with_reducible repeat (first | refine ql ?_ _ | refine qm ?_ | refine qk ?_ _)); exact BK197.out) hb); have n3_ := qo (qt (by repeat (first | (with_reducible first | exact HB.out | apply qc | apply qb | apply qd | refine qn ?_ GE197.out) | exact HB.out)) hb); clear HO200; clear BK197; clear HB; have HO200 := n0_; have HO205 := n1_; have BK197 := n2_; have HB := n3_; clear n0_ n1_ n2_ n3_; (try clear hb); (try clear hb2); (try clear hk); (try clear hi); (try clear ho0); have hcz20_0 : w19.cell? ⟨gb197, 0, none⟩ = some (.int .i64 a0_0) := (qe BK197.out 0).trans rfl; have hcz20_1 : w19.cell? ⟨gb197, 1, none⟩ = some (.slice A0_1 l0_1.length c0_1) := (qe BK197.out 1).trans rfl; have hcz20_2 : w19.cell? ⟨gb197, 2, none⟩ = some (.slice A0_2 l0_2.length c0_2) := (qe BK197.out 2).trans rfl; have hfz20_0 := qf BK197.out 0; have hfz20_1 := qf BK197.out 1; have hfz20_2 := qf BK197.out 2) | ((with_reducible refine gate_callee (f := 18) rfl ?_); refine goesL_ (some 36) rfl rfl Try.func18 (by kernel_rfl) rfl #[.agg #[.int .i64 a0_0, .slice A0_1 l0_1.length c0_1, .slice A0_2 l0_2.length c0_2], .int .i64 a1] rfl (by (try simp only [List.map_toArray, List.map_cons, List.map_nil]); first | done | rfl | (simp only [List.length_drop, List.length_take]; rfl)) ?_; (with_reducible refine (search_Solve.calls k a0_0 _ _ l0_1 _ _ l0_2 a1 t208 t211 t212 t213 _ ?side1 ?side2 ?side3 ?side4 A5.out).mono ?_); (case side1 => repeat (first | exact (qs HR0_1.out HB.out) | (with_reducible refine qv ?_ _) | (with_reducible refine qw ?_ _) | (with_reducible refine qx ?_))); (case side2 => exact HC0_1.out); (case side3 => repeat (first | exact (qs HR0_2.out HB.out) | (with_reducible refine qv ?_ _) | (with_reducible refine qw ?_ _) | (with_reducible refine qx ?_))); (case side4 => exact HC0_2.out); rintro e w21 ⟨v209, rfl, ho0, hb⟩; refine ⟨_, rfl, ?_⟩; have n0_ := qo (Kd.R_elder' (by (with_reducible repeat (first | apply qh | apply qg | apply qi)); exact HO200.out) (by first | exact Kd.N_base ho0 | exact Kd.S_base ho0 | exact Kd.R_base ho0 | exact Kd.Q_base ho0) hb); have n1_ := qo (Kd.R_elder' (by (with_reducible repeat (first | apply qh | apply qg | apply qi)); exact HO205.out) (by first | exact Kd.N_base ho0 | exact Kd.S_base ho0 | exact Kd.R_base ho0 | exact Kd.Q_base ho0) hb); have n2_ := qo (qag (Kd.R_new' (Kd.R_new' ho0 (Kd.R_lt (by (with_reducible repeat (first | apply qh | apply qg | apply qi)); exact HO200.out))) (Kd.R_lt (by (with_reducible repeat (first | apply qh | apply qg | apply qi)); exact HO205.out))) (qu (by repeat (first | (with_reducible first | exact HB.out | apply qc | apply qb | apply qd | refine qn ?_ GE197.out) | exact HB.out)))); have n3_ := qo (qaa (g := gb197) (o := .cells #[.int .i64 a0_0, .slice A0_1 l0_1.length c0_1, .slice A0_2 l0_2.length c0_2] 26 (0, 0)) (by (with_reducible repeat (first | refine ql ?_ _ | refine qm ?_ | refine qk ?_ _)); exact BK197.out) hb); have n4_ := qo (qt (by repeat (first | (with_reducible first | exact HB.out | apply qc | apply qb | apply qd | refine qn ?_ GE197.out) | exact HB.out)) hb); clear HO200; clear HO205; clear BK197; clear HB; have HO200 := n0_; have HO205 := n1_; have HO210 := n2_; have BK197 := n3_; have HB := n4_; clear n0_ n1_ n2_ n3_ n4_; (try clear hb); (try clear hb2); (try clear hk); (try clear hi); (try clear ho0); have hcz22_0 : w21.cell? ⟨gb197, 0, none⟩ = some (.int .i64 a0_0) := (qe BK197.out 0).trans rfl; have hcz22_1 : w21.cell? ⟨gb197, 1, none⟩ = some (.slice A0_1 l0_1.length c0_1) := (qe BK197.out 1).trans rfl; have hcz22_2 : w21.cell? ⟨gb197, 2, none⟩ = some (.slice A0_2 l0_2.length c0_2) := (qe BK197.out 2).trans rfl; have hfz22_0 := qf BK197.out 0; have hfz22_1 := qf BK197.out 1; have hfz22_2 := qf BK197.out 2) | ((with_reducible refine gate_callee (f := 42) rfl ?_); refine goesL_ (some 44) rfl rfl Try.func42 (by kernel_rfl) rfl #[.agg #[.int .i64 a0_0, .slice A0_1 l0_1.length c0_1, .slice A0_2 l0_2.length c0_2], .int .i64 a1] rfl (by (try simp only [List.map_toArray, List.map_cons, List.map_nil]); first | done | rfl | (simp only [List.length_drop, List.length_take]; rfl)) ?_; (with_reducible refine (railplanref17_Solve.calls k a0_0 _ _ l0_1 _ _ l0_2 a1 t214 t217 t218 t219 _ ?side1 ?side2 ?side3 ?side4 A6.out).mono ?_); (case side1 => repeat (first | exact (qs HR0_1.out HB.out) | (with_reducible refine qv ?_ _) | (with_reducible refine qw ?_ _) | (with_reducible refine qx ?_))); (case side2 => exact HC0_1.out); (case side3 => repeat (first | exact (qs HR0_2.out HB.out) | (with_reducible refine qv ?_ _) | (with_reducible refine qw ?_ _) | (with_reducible refine qx ?_))); (case side4 => exact HC0_2.out); rintro e w23 ⟨v215, rfl, ho0, hb⟩; refine ⟨_, rfl, ?_⟩; have n0_ := qo (Kd.R_elder' (by (with_reducible repeat (first | apply qh | apply qg | apply qi)); exact HO200.out) (by first | exact Kd.N_base ho0 | exact Kd.S_base ho0 | exact Kd.R_base ho0 | exact Kd.Q_base ho0) hb); have n1_ := qo (Kd.R_elder' (by (with_reducible repeat (first | apply qh | apply qg | apply qi)); exact HO205.out) (by first | exact Kd.N_base ho0 | exact Kd.S_base ho0 | exact Kd.R_base ho0 | exact Kd.Q_base ho0) hb); have n2_ := qo (Kd.R_elder' (by (with_reducible repeat (first | apply qh | apply qg | apply qi)); exact HO210.out) (by first | exact Kd.N_base ho0 | exact Kd.S_base ho0 | exact Kd.R_base ho0 | exact Kd.Q_base ho0) hb); have n3_ := qo (qag (Kd.R_new' (Kd.R_new' (Kd.R_new' ho0 (Kd.R_lt (by (with_reducible repeat (first | apply qh | apply qg | apply qi)); exact HO200.out))) (Kd.R_lt (by (with_reducible repeat (first | apply qh | apply qg | apply qi)); exact HO205.out))) (Kd.R_lt (by (with_reducible repeat (first | apply qh | apply qg | apply qi)); exact HO210.out))) (qu (by repeat (first | (with_reducible first | exact HB.out | apply qc | apply qb | apply qd | refine qn ?_ GE197.out) | exact HB.out)))); have n4_ := qo (qaa (g := gb197) (o := .cells #[.int .i64 a0_0, .slice A0_1 l0_1.length c0_1, .slice A0_2 l0_2.length c0_2] 26 (0, 0)) (by (with_reducible repeat (first | refine ql ?_ _ | refine qm ?_ | refine qk ?_ _)); exact BK197.out) hb); have n5_ := qo (qt (by repeat (first | (with_reducible first | exact HB.out | apply qc | apply qb | apply qd | refine qn ?_ GE197.out) | exact HB.out)) hb); clear HO200; clear HO205; clear HO210; clear BK197; clear HB; have HO200 := n0_; have HO205 := n1_; have HO210 := n2_; have HO216 := n3_; have BK197 := n4_; have HB := n5_; clear n0_ n1_ n2_ n3_ n4_ n5_; (try clear hb); (try clear hb2); (try clear hk); (try clear hi); (try clear ho0); obtain ⟨Ao24, co24, eo24⟩ := qak HO200.out; subst eo24; obtain ⟨Ao25, co25, eo25⟩ := qak HO205.out; subst eo25) | ((with_reducible refine gate_callee (f := 20) rfl ?_); refine goesL_ (some 51) rfl rfl Try.func20 (by kernel_rfl) rfl #[.slice Ao24 t198.length co24, .slice Ao25 t203.length co25] rfl (by (try simp only [List.map_toArray, List.map_cons, List.map_nil]); first | done | rfl | (simp only [List.length_drop, List.length_take]; rfl)) ?_; (with_reducible refine (railplankeep_Same_int.calls k _ _ t198 _ _ t203 true _ ?side1 ?side2 ?side3 ?side4 A7.out).mono ?_); (case side1 => repeat (first | exact (qr HO200.out).2.2 | (with_reducible refine qv ?_ _) | (with_reducible refine qw ?_ _) | (with_reducible refine qx ?_))); (case side2 => exact (qr HO200.out).2.1); (case side3 => repeat (first | exact (qr HO205.out).2.2 | (with_reducible refine qv ?_ _) | (with_reducible refine qw ?_ _) | (with_reducible refine qx ?_))); (case side4 => exact (qr HO205.out).2.1); rintro e w' ⟨rfl, ⟨nd, rfl⟩⟩; refine ⟨_, rfl, ?_⟩; obtain ⟨Ao26, co26, eo26⟩ := qak HO210.out; subst eo26; obtain ⟨Ao27, co27, eo27⟩ := qak HO216.out; subst eo27) | (go_at_call 20; (with_reducible refine (railplankeep_Same_int.calls k _ _ t208 _ _ t214 true _ ?side1 ?side2 ?side3 ?side4 A11.out).mono ?_); (case side1 => repeat (first | exact (qr HO210.out).2.2 | (with_reducible refine qv ?_ _) | (with_reducible refine qw ?_ _) | (with_reducible refine qx ?_))); (case side2 => exact (qr HO210.out).2.1); (case side3 => repeat (first | exact (qr HO216.out).2.2 | (with_reducible refine qv ?_ _) | (with_reducible refine qw ?_ _) | (with_reducible refine qx ?_))); (case side4 => exact (qr HO216.out).2.1); rintro e w' ⟨rfl, ⟨nd, rfl⟩⟩))
       go_ret
       exact ⟨by first | rfl | (simp [errW_none, errW_some] <;> rfl) | (simp [*, errW_none, errW_some] <;> rfl), by repeat (first | (with_reducible first | exact HB.out | apply qc | apply qb | apply qd | refine qn ?_ GE197.out) | exact HB.out)⟩
      ·rw [if_neg c14] at H
       have c14b0 : (t212 == t218) = false := beq_eq_false_iff_ne.mpr c14
       have c14b1 : (t212 != t218) = true := bne_iff_ne.mpr c14
       exact absurd (Option.some.inj H) (by rw [hT.out]; decide)
     ·rw [if_neg c13] at H
      have c13b0 : (t211 == t217) = false := beq_eq_false_iff_ne.mpr c13
      have c13b1 : (t211 != t217) = true := bne_iff_ne.mpr c13
      exact absurd (Option.some.inj H) (by rw [hT.out]; decide)
    ·replace c12 := Bool.eq_false_iff.mpr c12
     subst c12
     have H1 : (some false) = some r := by rw [if_neg (show ¬ (false = true) by decide)] at H; exact H
     clear H
     have H := H1
     clear H1
     exact absurd (Option.some.inj H) (by rw [hT.out]; decide)
   ·rw [if_neg c10] at H
    have c10b0 : (t202 == t207) = false := beq_eq_false_iff_ne.mpr c10
    have c10b1 : (t202 != t207) = true := bne_iff_ne.mpr c10
    exact absurd (Option.some.inj H) (by rw [hT.out]; decide)
  ·rw [if_neg c9] at H
   have c9b0 : (t201 == t206) = false := beq_eq_false_iff_ne.mpr c9
   have c9b1 : (t201 != t206) = true := bne_iff_ne.mpr c9
   exact absurd (Option.some.inj H) (by rw [hT.out]; decide)
 ·replace c8 := Bool.eq_false_iff.mpr c8
  subst c8
  have H1 : (some false) = some r := by rw [if_neg (show ¬ (false = true) by decide)] at H; exact H
  clear H
  have H := H1
  clear H1
  exact absurd (Option.some.inj H) (by rw [hT.out]; decide)

end Go.Proofs.Ytpioelilfhkfdaa.XAll
