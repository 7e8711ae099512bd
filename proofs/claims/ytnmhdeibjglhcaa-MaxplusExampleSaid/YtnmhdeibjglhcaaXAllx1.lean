-- This session's own text, written by wip/tools/xall.py after the form of the kit's print.
import Derived.Test.YtnmhdeibjglhcaaXAllx0
namespace Go.Proofs.Ytnmhdeibjglhcaa.XAll
open Go.RowKit Go.Proofs.YtnmhdeibjglhcaaW.PrintWords Go.Proofs.YtnmhdeibjglhcaaW.PrintLast Go.Proofs.YtnmhdeibjglhcaaW.PrintMore
attribute [local go_sem] max2_int min2_int max_two min_two max_three min_three max_four min_four   -- for this text's walks alone
set_option linter.unusedVariables false
set_option linter.unusedSimpArgs false

/-! ### maxplus_entry: function 52 -/
def maxplus_entry.f (a0 : Int) : Option (Bool) := if a0 = (-1125899906842624) then (some true) else (if a0 ≥ (-68719476736) then (some (decide (a0 ≤ 68719476736))) else (some false))
set_option maxHeartbeats 8000000 in
set_option maxRecDepth 100000 in
theorem maxplus_entry.calls (a0 : Int) (r : Bool) (w : World) (h : maxplus_entry.f a0 = some r) :
  Calls Try.prog 52 #[.int .i64 a0] w fun e w' => e = .returned (.bool r) ∧ Drawn0 w w' := by
 have H : (if a0 = (-1125899906842624) then (some true) else (if a0 ≥ (-68719476736) then (some (decide (a0 ≤ 68719476736))) else (some false))) = some r := h
 clear h
 by_cases c2 : a0 = (-1125899906842624)
 ·rw [if_pos c2] at H
  have c2b0 : (a0 == (-1125899906842624)) = true := beq_iff_eq.mpr c2
  have c2b1 : (a0 != (-1125899906842624)) = false := bne_eq_false_iff_eq.mpr c2
  clear c2
  obtain rfl := Option.some.inj H
  go_enter Try.func52, Try.ntmps52
  go_wp2
  go_ret
  exact ⟨by first | rfl | (simp; done) | (simp [*]; done), by repeat (first | exact Drawn0.refl _ | apply Drawn0.step)⟩
 ·rw [if_neg c2] at H
  have c2b0 : (a0 == (-1125899906842624)) = false := beq_eq_false_iff_ne.mpr c2
  have c2b1 : (a0 != (-1125899906842624)) = true := bne_iff_ne.mpr c2
  by_cases c3 : a0 ≥ (-68719476736)
  ·rw [if_pos c3] at H
   have c3b0 : decide ((-68719476736) ≤ a0) = true := decide_eq_true c3
   clear c3
   obtain rfl := Option.some.inj H
   go_enter Try.func52, Try.ntmps52
   go_wp2
   go_ret
   exact ⟨by first | rfl | (simp; done) | (simp [*]; done), by repeat (first | exact Drawn0.refl _ | apply Drawn0.step)⟩
  ·rw [if_neg c3] at H
   have c3b0 : decide ((-68719476736) ≤ a0) = false := decide_eq_false c3
   clear c3
   obtain rfl := Option.some.inj H
   go_enter Try.func52, Try.ntmps52
   go_wp2
   go_ret
   exact ⟨by first | rfl | (simp; done) | (simp [*]; done), by repeat (first | exact Drawn0.refl _ | apply Drawn0.step)⟩

end Go.Proofs.Ytnmhdeibjglhcaa.XAll
