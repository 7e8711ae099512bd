-- This session's own text, written by wip/tools/xall.py after the form of the kit's print.
import Derived.Test.YtnmhdeibjglhcaaXAllx0
namespace Go.Proofs.Ytnmhdeibjglhcaa.XAll
open Go.RowKit Go.Proofs.YtnmhdeibjglhcaaW.PrintWords Go.Proofs.YtnmhdeibjglhcaaW.PrintLast Go.Proofs.YtnmhdeibjglhcaaW.PrintMore
attribute [local go_sem] max2_int min2_int max_two min_two max_three min_three max_four min_four   -- for this text's walks alone
set_option linter.unusedVariables false
set_option linter.unusedSimpArgs false

/-! ### maxplus_sum: function 54 -/
def maxplus_sum.f (a0 : Int) (a1 : Int) : Option (Int) := if a0 = (-1125899906842624) then (some (-1125899906842624)) else (if a1 = (-1125899906842624) then (some (-1125899906842624)) else (some (wrap64 (a0 + a1))))
set_option maxHeartbeats 8000000 in
set_option maxRecDepth 100000 in
theorem maxplus_sum.calls (a0 : Int) (a1 : Int) (r : Int) (w : World) (h : maxplus_sum.f a0 a1 = some r) :
  Calls Try.prog 54 #[.int .i64 a0, .int .i64 a1] w fun e w' => e = .returned (.int .i64 r) ∧ Drawn0 w w' := by
 have H : (if a0 = (-1125899906842624) then (some (-1125899906842624)) else (if a1 = (-1125899906842624) then (some (-1125899906842624)) else (some (wrap64 (a0 + a1))))) = some r := h
 clear h
 by_cases c3 : a0 = (-1125899906842624)
 ·rw [if_pos c3] at H
  have c3b0 : (a0 == (-1125899906842624)) = true := beq_iff_eq.mpr c3
  have c3b1 : (a0 != (-1125899906842624)) = false := bne_eq_false_iff_eq.mpr c3
  clear c3
  obtain rfl := Option.some.inj H
  go_enter Try.func54, Try.ntmps54
  go_wp2
  go_ret
  exact ⟨by first | rfl | (simp; done) | (simp [*]; done), by repeat (first | exact Drawn0.refl _ | apply Drawn0.step)⟩
 ·rw [if_neg c3] at H
  have c3b0 : (a0 == (-1125899906842624)) = false := beq_eq_false_iff_ne.mpr c3
  have c3b1 : (a0 != (-1125899906842624)) = true := bne_iff_ne.mpr c3
  by_cases c4 : a1 = (-1125899906842624)
  ·rw [if_pos c4] at H
   have c4b0 : (a1 == (-1125899906842624)) = true := beq_iff_eq.mpr c4
   have c4b1 : (a1 != (-1125899906842624)) = false := bne_eq_false_iff_eq.mpr c4
   clear c4
   obtain rfl := Option.some.inj H
   go_enter Try.func54, Try.ntmps54
   go_wp2
   go_ret
   exact ⟨by first | rfl | (simp; done) | (simp [*]; done), by repeat (first | exact Drawn0.refl _ | apply Drawn0.step)⟩
  ·rw [if_neg c4] at H
   have c4b0 : (a1 == (-1125899906842624)) = false := beq_eq_false_iff_ne.mpr c4
   have c4b1 : (a1 != (-1125899906842624)) = true := bne_iff_ne.mpr c4
   obtain rfl := Option.some.inj H
   go_enter Try.func54, Try.ntmps54
   go_wp2
   go_ret
   exact ⟨by first | rfl | (simp; done) | (simp [*]; done), by repeat (first | exact Drawn0.refl _ | apply Drawn0.step)⟩

end Go.Proofs.Ytnmhdeibjglhcaa.XAll
