-- This session's own text, written by wip/tools/xall.py after the form of the kit's print.
import Derived.Test.YtlmlkedcinobiaaXAllx0
namespace Go.Proofs.Ytlmlkedcinobiaa.XAll
open Go.RowKit Go.Proofs.YtlmlkedcinobiaaW.PrintWords Go.Proofs.YtlmlkedcinobiaaW.PrintLast Go.Proofs.YtlmlkedcinobiaaW.PrintMore
attribute [local go_sem] max2_int min2_int max_two min_two max_three min_three max_four min_four   -- for this text's walks alone
set_option linter.unusedVariables false
set_option linter.unusedSimpArgs false

/-! ### slices_Clone_railplan_api_Event_railplan_api_Event: function 65 -/
def slices_Clone_railplan_api_Event_railplan_api_Event.f (l0 : List S34) : Option (List S34) := if l0.length < 5864062014805 then some l0 else none
theorem clone34_info : (Try.prog.info? 34).map (fun i => (i.zero, i.size, i.bytes)) = some (some (.agg #[.int .i64 0, .int .i64 0, .int .i64 0]), 3, 24) := by kernel_rfl
theorem clone34_KM (w W : World) (base : Nat) (ok : Nat → Prop) : ∀ (x : S34) cs, k34.K w x cs → k34.M W base ok x cs := fun x cs h => by
 obtain rfl := k34_open h
 exact k34_mkM W base ok x
set_option maxHeartbeats 1000000 in
theorem slices_Clone_railplan_api_Event_railplan_api_Event.calls (A0 : Option Addr) (c0 : Nat) (l0 : List S34) (r : List S34) (w : World) (hr0 : Kd.C k34 w A0 l0.length l0) (hc0 : l0.length ≤ c0) (h : slices_Clone_railplan_api_Event_railplan_api_Event.f l0 = some r) :
  Calls Try.prog 65 #[.slice A0 l0.length c0] w fun e w' => ∃ v0_ : Value, e = .returned v0_ ∧ Kd.R k34 34 w' w.heap.size (fun _ => True) v0_ r ∧ Below w.heap.size w w' := by
 unfold slices_Clone_railplan_api_Event_railplan_api_Event.f at h
 have hlt : l0.length < 5864062014805 := by
  apply Classical.byContradiction
  intro hn
  rw [if_neg hn] at h
  exact absurd h (by simp)
 rw [if_pos hlt] at h
 obtain rfl := Option.some.inj h
 clear h
 have HLT := Aside0.mk hlt
 have HR := Aside0.mk hr0
 clear hlt hr0 hc0
 have heq := fun W => Lib.run_eql_slice_nil (P := Try.prog) W 23 34 A0 l0.length c0 0 0 Try.underlying23
 cases A0 with
 | none =>
  have h0 : l0 = [] := by
   apply List.eq_nil_of_length_eq_zero
   rcases Nat.eq_zero_or_pos l0.length with h | h
   ·exact h
   ·obtain ⟨ad, e, _⟩ := HR.out.2.2 h
    cases e
  have H0 := Aside0.mk h0
  clear h0
  go_enter Try.func65, Try.ntmps65
  go_wp2_with fail
  go_ret
  exact ⟨_, rfl, by rw [H0.out]; exact Kd.R_nil _ _ _ _ _, Below.refl _ _⟩
 | some ad =>
  have hlim : (0 + l0.length) * 24 ≤ 140737488355328 := by have := HLT.out; omega
  have HLIM := Aside0.mk hlim
  clear hlim
  have ho : Kd.R k34 34 (w.alloc (.cells #[] 34)) w.heap.size (fun _ => True) (.slice (some ⟨w.heap.size, 0, none⟩) 0 0) [] :=
   ⟨fun _ _ => trivial, [], by simpa using World.ownsRow_lit (base := w.heap.size) (e := 34) (size := k34.sz) w #[] 0 (Nat.le_refl _) (by simp [maxLen]) rfl, ⟨rfl, fun j p hj => by simp at hj⟩⟩
  have HO := Aside0.mk ho
  have hb : Below w.heap.size w (w.alloc (.cells #[] 34)) := below_alloc (Below.refl _ _) _
  have HB := Aside0.mk hb
  clear ho hb
  go_enter Try.func65, Try.ntmps65
  go_wp2_with ((with_reducible refine gate_dst (N := 7) rfl ?_); go_loud (refine Kd.R_append_rows k34 (w0 := w) (Rr := k34.K w) w.heap.size rfl (.tmp 5) (.tmp 6) 23 34 _ 24 rfl Try.underlying23 clone34_info rfl (by decide) (by omega) (.slice (some ⟨w.heap.size, 0, none⟩) 0 0) [] l0 _ _ _ (fun _ => True) (fun k => k < w.heap.size) rfl rfl HO.out (HR.out.imp_ HB.out (fun _ _ h => h)) (clone34_KM _ _ _ _) (fun k hk => ⟨trivial, fun e => by have hk' : k < w.heap.size := hk; simp [Value.ownBlock] at e; omega⟩) (fun _ _ => trivial) HB.out HB.out.size HLIM.out ?_); intro v2 w2 ho2 hb2 hg2 hat2; clear hg2 hat2; have HO2 := Aside0.mk ho2; have HB2 := Aside0.mk hb2; clear ho2 hb2)
  go_ret
  exact ⟨_, rfl, by simpa using HO2.out, HB2.out⟩

end Go.Proofs.Ytlmlkedcinobiaa.XAll
