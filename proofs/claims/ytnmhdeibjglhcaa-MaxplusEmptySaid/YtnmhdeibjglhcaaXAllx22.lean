-- This session's own text, written by wip/tools/xall.py after the form of the kit's print.
import Derived.Test.YtnmhdeibjglhcaaXAllx0
import Derived.Test.YtnmhdeibjglhcaaXAllx15
namespace Go.Proofs.Ytnmhdeibjglhcaa.XAll
open Go.RowKit Go.Proofs.YtnmhdeibjglhcaaW.PrintWords Go.Proofs.YtnmhdeibjglhcaaW.PrintLast Go.Proofs.YtnmhdeibjglhcaaW.PrintMore
attribute [local go_sem] max2_int min2_int max_two min_two max_three min_three max_four min_four   -- for this text's walks alone
set_option linter.unusedVariables false
set_option linter.unusedSimpArgs false

/-! ### maxplus_Critical: function 36 -/
/-- Critical where there is no mean; elsewhere it is not told. -/
def maxplus_Critical.f (k : Nat) (l0 : List (List Int)) : Option (List Int) := (maxplus_Mean.f k l0).bind fun t => (if t.2.2 = true then none else some ([] : List Int))
theorem maxplus_Critical.mono : ∀ a0 k, LeO (maxplus_Critical.f k a0) (maxplus_Critical.f (k + 1) a0) := by
 intro a0 k
 unfold maxplus_Critical.f
 exact LeO.bind (maxplus_Mean.mono _ _) (fun _ => LeO.refl _)
set_option maxHeartbeats 1000000 in
theorem maxplus_Critical.calls (k : Nat) (A0 : Option Addr) (c0 : Nat) (l0 : List (List Int)) (r : List Int) (w : World) (hr0 : Kd.C (Kd.slice 3 (Kd.int .i64)) w A0 l0.length l0) (hc0 : l0.length ≤ c0) (h : maxplus_Critical.f k l0 = some r) :
  Calls Try.prog 36 #[.slice A0 l0.length c0] w fun e w' => ∃ v0_ : Value, e = .returned v0_ ∧ Kd.R (Kd.int .i64) 3 w' w.heap.size (fun _ => True) v0_ r ∧ Below w.heap.size w w' := by
 unfold maxplus_Critical.f at h
 cases hck : maxplus_Mean.f k l0 with
 | none => rw [hck] at h; exact absurd h (by simp)
 | some t =>
  obtain ⟨x, y, ok⟩ := t
  rw [hck] at h
  cases ok with
  | true => exact absurd h (by simp)
  | false =>
   have h2 : ([] : List Int) = r := by simpa using h
   subst h2
   have HC := Aside0.mk (maxplus_Mean.calls k A0 c0 l0 x y false w hr0 hc0 hck)
   clear h hck hr0 hc0
   go_enter Try.func36, Try.ntmps36
   go_wp2_with (go_at_call 20; refine HC.out.mono ?_; rintro e w' ⟨rfl, hd⟩)
   go_ret
   exact ⟨_, rfl, Kd.R_nil _ _ _ _ _, by repeat (first | exact Below.refl _ _ | exact hd | apply pw_below_drewN | apply below_drew1)⟩

end Go.Proofs.Ytnmhdeibjglhcaa.XAll
