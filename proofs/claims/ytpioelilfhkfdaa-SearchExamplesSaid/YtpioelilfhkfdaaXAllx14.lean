-- This session's own text, written by wip/tools/xall.py after the form of the kit's print.
import Derived.Test.YtpioelilfhkfdaaXAllx0
namespace Go.Proofs.Ytpioelilfhkfdaa.XAll
open Go.RowKit Go.Proofs.YtpioelilfhkfdaaW.PrintWords Go.Proofs.YtpioelilfhkfdaaW.PrintLast Go.Proofs.YtpioelilfhkfdaaW.PrintMore
attribute [local go_sem] max2_int min2_int max_two min_two max_three min_three max_four min_four   -- for this text's walks alone
set_option linter.unusedVariables false
set_option linter.unusedSimpArgs false

/-! ### slices_Clone_int_int: function 74 -/
def slices_Clone_int_int.f (l0 : List Int) : Option (List Int) := if l0.length < 17592186044416 then some l0 else none
theorem cloneI_info : (Try.prog.info? 3).map (fun i => (i.zero, i.size, i.bytes)) = some (some (.int .i64 0), 1, 8) := by kernel_rfl
theorem cloneI_KM (w W : World) (base : Nat) (ok : Nat → Prop) : ∀ (x : Int) cs, (Kd.int .i64).K w x cs → (Kd.int .i64).M W base ok x cs := fun x cs h => h
set_option maxHeartbeats 1000000 in
theorem slices_Clone_int_int.calls (A0 : Option Addr) (c0 : Nat) (l0 : List Int) (r : List Int) (w : World) (hr0 : Kd.C (Kd.int .i64) w A0 l0.length l0) (hc0 : l0.length ≤ c0) (h : slices_Clone_int_int.f l0 = some r) :
  Calls Try.prog 74 #[.slice A0 l0.length c0] w fun e w' => ∃ v0_ : Value, e = .returned v0_ ∧ Kd.R (Kd.int .i64) 3 w' w.heap.size (fun _ => True) v0_ r ∧ Below w.heap.size w w' := by
 unfold slices_Clone_int_int.f at h
 have hlt : l0.length < 17592186044416 := by
  apply Classical.byContradiction
  intro hn
  rw [if_neg hn] at h
  exact absurd h (by simp)
 rw [if_pos hlt] at h
 obtain rfl := Option.some.inj h
 clear h
 have HLT := Aside0.mk hlt
 have HR := Aside0.mk hr0
 clear hlt hr0 hc0
 have heq := fun W => Lib.run_eql_slice_nil (P := Try.prog) W 22 3 A0 l0.length c0 0 0 Try.underlying22
 cases A0 with
 | none =>
  have h0 : l0 = [] := by
   apply List.eq_nil_of_length_eq_zero
   rcases Nat.eq_zero_or_pos l0.length with h | h
   ·exact h
   ·obtain ⟨ad, e, _⟩ := HR.out.2.2 h
    cases e
  have H0 := Aside0.mk h0
  clear h0
  go_enter Try.func74, Try.ntmps74
  go_wp2_with fail
  go_ret
  exact ⟨_, rfl, by rw [H0.out]; exact Kd.R_nil _ _ _ _ _, Below.refl _ _⟩
 | some ad =>
  have hlim : (0 + l0.length) * 8 ≤ 140737488355328 := by have := HLT.out; omega
  have HLIM := Aside0.mk hlim
  clear hlim
  have ho : Kd.R (Kd.int .i64) 3 (w.alloc (.cells #[] 3)) w.heap.size (fun _ => True) (.slice (some ⟨w.heap.size, 0, none⟩) 0 0) [] :=
   ⟨fun _ _ => trivial, [], by simpa using World.ownsRow_lit (base := w.heap.size) (e := 3) (size := (Kd.int .i64).sz) w #[] 0 (Nat.le_refl _) (by simp [maxLen]) rfl, ⟨rfl, fun j p hj => by simp at hj⟩⟩
  have HO := Aside0.mk ho
  have hb : Below w.heap.size w (w.alloc (.cells #[] 3)) := below_alloc (Below.refl _ _) _
  have HB := Aside0.mk hb
  clear ho hb
  go_enter Try.func74, Try.ntmps74
  go_wp2_with ((with_reducible refine gate_dst (N := 7) rfl ?_); go_loud (refine Kd.R_append_rows (Kd.int .i64) (w0 := w) (Rr := (Kd.int .i64).K w) w.heap.size rfl (.tmp 5) (.tmp 6) 22 3 _ 8 rfl Try.underlying22 cloneI_info rfl (by decide) (by omega) (.slice (some ⟨w.heap.size, 0, none⟩) 0 0) [] l0 _ _ _ (fun _ => True) (fun k => k < w.heap.size) rfl rfl HO.out (HR.out.imp_ HB.out (fun _ _ h => h)) (cloneI_KM _ _ _ _) (fun k hk => ⟨trivial, fun e => by have hk' : k < w.heap.size := hk; simp [Value.ownBlock] at e; omega⟩) (fun _ _ => trivial) HB.out HB.out.size HLIM.out ?_); intro v2 w2 ho2 hb2 hg2 hat2; clear hg2 hat2; have HO2 := Aside0.mk ho2; have HB2 := Aside0.mk hb2; clear ho2 hb2)
  go_ret
  exact ⟨_, rfl, by simpa using HO2.out, HB2.out⟩

end Go.Proofs.Ytpioelilfhkfdaa.XAll
