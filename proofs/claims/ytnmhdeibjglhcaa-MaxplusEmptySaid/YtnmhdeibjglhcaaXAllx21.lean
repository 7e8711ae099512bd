-- This session's own text, written by wip/tools/xall.py after the form of the kit's print.
import Derived.Test.YtnmhdeibjglhcaaXAllx0
import Derived.Test.YtnmhdeibjglhcaaXAllx4
namespace Go.Proofs.Ytnmhdeibjglhcaa.XAll
open Go.RowKit Go.Proofs.YtnmhdeibjglhcaaW.PrintWords Go.Proofs.YtnmhdeibjglhcaaW.PrintLast Go.Proofs.YtnmhdeibjglhcaaW.PrintMore
attribute [local go_sem] max2_int min2_int max_two min_two max_three min_three max_four min_four   -- for this text's walks alone
set_option linter.unusedVariables false
set_option linter.unusedSimpArgs false

/-! ### maxplus_Star: function 35 -/
/-- Star where the matrix is refused; elsewhere it is not told. -/
def maxplus_Star.f (k : Nat) (l0 : List (List Int)) : Option ((List (List Int)) × Int) := (maxplus_Check.f k l0).bind fun t => (if t = true then none else some (([] : List (List Int)), 1))
theorem maxplus_Star.mono : ∀ a0 k, LeO (maxplus_Star.f k a0) (maxplus_Star.f (k + 1) a0) := by
 intro a0 k
 unfold maxplus_Star.f
 exact LeO.bind (maxplus_Check.mono _ _) (fun _ => LeO.refl _)
set_option maxHeartbeats 1000000 in
theorem maxplus_Star.calls (k : Nat) (A0 : Option Addr) (c0 : Nat) (l0 : List (List Int)) (r1 : List (List Int)) (r2 : Int) (w : World) (hr0 : Kd.C (Kd.slice 3 (Kd.int .i64)) w A0 l0.length l0) (hc0 : l0.length ≤ c0) (h : maxplus_Star.f k l0 = some (r1, r2)) :
  Calls Try.prog 35 #[.slice A0 l0.length c0] w fun e w' => ∃ v0_ : Value, e = .returned (.tuple #[v0_, .int .i64 r2]) ∧ Kd.S (Kd.slice 3 (Kd.int .i64)) 22 w' w.heap.size (fun _ => True) v0_ r1 ∧ Below w.heap.size w w' := by
 unfold maxplus_Star.f at h
 cases hck : maxplus_Check.f k l0 with
 | none => rw [hck] at h; exact absurd h (by simp)
 | some t =>
  rw [hck] at h
  cases t with
  | true => exact absurd h (by simp)
  | false =>
   have h2 : (([] : List (List Int)), (1 : Int)) = (r1, r2) := by simpa using h
   obtain ⟨rfl, rfl⟩ := Prod.mk.inj h2
   have HC := Aside0.mk (maxplus_Check.calls k A0 c0 l0 false w hr0 hc0 hck)
   clear h h2 hck hr0 hc0
   go_enter Try.func35, Try.ntmps35
   go_wp2_with (go_at_call 30; refine HC.out.mono ?_; rintro e w' ⟨rfl, hd⟩; obtain ⟨nq, rfl⟩ := hd)
   go_ret2
   exact ⟨_, rfl, Kd.S_nil _ _ _ _ _, by repeat (first | exact Below.refl _ _ | apply pw_below_drewN | apply below_drew1)⟩

end Go.Proofs.Ytnmhdeibjglhcaa.XAll
