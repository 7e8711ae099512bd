-- This session's own text, written by wip/tools/rowx.py after the form of the kit's print.
import Derived.Test.YtfnpoalffpnllaaRows
import Derived.Test.YtfnpoalffpnllaaXDynamicsReferencex7
import Derived.Test.YtfnpoalffpnllaaPureDynamicsReference
import Derived.Test.YtfnpoalffpnllaaOpens
import Derived.WalkKit
import Derived.ProofKit
import Derived.OpenShut
import Derived.ShutString
import Derived.ChangeOld
import Derived.Below
import Derived.SizedLaws
import Derived.Test.YtfnpoalffpnllaaWSized
namespace Go.Proofs.Ytfnpoalffpnllaa.dynamicsReference
open Go.ChangeShapes Go.WideShapes Go.ChangeAt Go.RowKit Go.Proofs.YtfnpoalffpnllaaW.PrintWords Go.Proofs.Ytfnpoalffpnllaa.Opens Go.Proofs.Ytfnpoalffpnllaa.XDynamicsReference
open Go.ChangeMaps (open_string shut_string)
set_option linter.unusedVariables false
theorem own : ownKnob Try.prog.godebug = none := by kernel_rfl
theorem laidOut : laidOutB Try.prog = true := by kernel_rfl
theorem dec34 {H : Type} {enc : TypeId × Value → H} {w : World} {base : Nat} {spare : Nat → Bool} {held : Bool} : Dec enc Try.prog w base spare held 34 k34 := fun n cs x h => by
  have hl := struct_len Try.underlying34 h
  rw [show Try.prog.cellsOf 34 = 2 from by kernel_rfl] at hl
  match cs, hl with
  | [c0, c1], _ =>
    obtain ⟨a0, K0⟩ := field Try.underlying34 h (i := 0) rfl (dec_int Try.underlying3) (by kernel_rfl) (v := c0) rfl
    obtain rfl : c0 = _ := (List.cons.inj K0).1
    obtain ⟨a1, K1⟩ := field Try.underlying34 h (i := 1) rfl (dec_int Try.underlying3) (by kernel_rfl) (v := c1) rfl
    obtain rfl : c1 = _ := (List.cons.inj K1).1
    exact ⟨⟨a0, a1⟩, k34_mk w ⟨a0, a1⟩⟩
theorem cells5 {L : List Value} (h : (Array.mk L).size = 5) : ∃ c0 c1 c2 c3 c4, L = [c0, c1, c2, c3, c4] := by
  match L, h with
  | [c0, c1, c2, c3, c4], _ => exact ⟨c0, c1, c2, c3, c4, rfl⟩
theorem flds26 {H : Type} {enc : TypeId × Value → H} {w : World} {base : Nat} {spare : Nat → Bool} {held : Bool} {n : Nat} {x : DataW H × List MemPlace} {c0 c1 c2 c3 c4 : Value} (h : DataW.trod enc Try.prog w base spare held n 26 [c0, c1, c2, c3, c4] = some x) :
    ∃ a0 a1 a2 a3 a4, c0 = .string a0 ∧ c1 = .int .i64 a1 ∧ c2 = .int .i64 a2 ∧ c3 = .int .i64 a3 ∧ c4 = .int .i64 a4 := by
  obtain ⟨a0, K0⟩ := field Try.underlying26 h (i := 0) rfl (dec_string Try.underlying9) (by kernel_rfl) (v := c0) rfl
  obtain rfl : c0 = _ := (List.cons.inj K0).1
  obtain ⟨a1, K1⟩ := field Try.underlying26 h (i := 1) rfl (dec_int Try.underlying3) (by kernel_rfl) (v := c1) rfl
  obtain rfl : c1 = _ := (List.cons.inj K1).1
  obtain ⟨a2, K2⟩ := field Try.underlying26 h (i := 2) rfl (dec_int Try.underlying3) (by kernel_rfl) (v := c2) rfl
  obtain rfl : c2 = _ := (List.cons.inj K2).1
  obtain ⟨a3, K3⟩ := field Try.underlying26 h (i := 3) rfl (dec_int Try.underlying3) (by kernel_rfl) (v := c3) rfl
  obtain rfl : c3 = _ := (List.cons.inj K3).1
  obtain ⟨a4, K4⟩ := field Try.underlying26 h (i := 4) rfl (dec_int Try.underlying3) (by kernel_rfl) (v := c4) rfl
  obtain rfl : c4 = _ := (List.cons.inj K4).1
  exact ⟨a0, a1, a2, a3, a4, rfl, rfl, rfl, rfl, rfl⟩
set_option maxRecDepth 100000 in
theorem lifted (os : Os) (started : os.Started) (H : Type) (enc : TypeId × Value → H) :
    ReturnsInHanded {} Try.checked os 9 .any (Rows.dynamicsReferenceSpec.pre6 enc Try.prog Try.f9 Rows.dynamicsReferenceRow.domain false) (Rows.dynamicsReferenceSpec.post enc Try.prog Try.f9 false true false false) := by
  refine returnsInHanded_of_change_sized (C := Try.checked) own started (by kernel_rfl) Try.func9
    (ChangeSpec.witness6 (enc := enc) (C := Try.checked) false ⟨#[], #[.slice none 0 0, .int .i64 0, .agg #[.string ByteArray.empty, .int .i64 0, .int .i64 0, .int .i64 0, .int .i64 0]], []⟩ 8 (by kernel_rfl) (by kernel_rfl) (by kernel_rfl) (by kernel_rfl)) ?_
  intro W base args ds gs before hval0 hW hcnd hsz0 _
  have hval : ∀ (j : Nat) t v, Try.f9.params[j]? = some t → args[j]? = some v → Value.okWide Try.prog W .any base t v := hval0
  have hW' := hW
  obtain ⟨p, q, hA0, hV, rfl, hfz, hnd⟩ := hW
  have hA : DataW.TrodAll enc Try.prog W 0 (fun _ => true) true Try.f9.params.toList args.toList ds p := hA0
  rw [Try.params9] at hA hval
  obtain ⟨v0, vs0, d0, ds0, p0, q0, hargs, rfl, rfl, h0, r0⟩ := trodAll_cons hA
  obtain ⟨v1, vs1, d1, ds1, p1, q1, rfl, rfl, rfl, h1, r1⟩ := trodAll_cons r0
  obtain ⟨v2, vs2, d2, ds2, p2, q2, rfl, rfl, rfl, h2, r2⟩ := trodAll_cons r1
  obtain ⟨rfl, rfl, rfl⟩ := trodAll_nil r2
  obtain rfl : args = #[v0, v1, v2] := by cases args; simp_all
  obtain ⟨rfl, rfl⟩ := trodVars_none hV
  have k0 := h0
  have lt0 : ∀ x ∈ p0, x.block < W.heap.size := by obtain ⟨m, hm⟩ := k0; exact DataW.trod_lt m _ _ _ hm
  obtain ⟨ar0, len0, cap0, rfl⟩ := okWide_slice Try.underlying23 (hval 0 23 v0 rfl rfl)
  obtain ⟨fuel0, hf0⟩ := h0
  obtain ⟨l0, A0, cp0, E0, hc0, hr0⟩ := (dec_slice Try.underlying23 (by kernel_rfl) dec34) _ _ _ hf0
  simp only [Value.cells, List.cons.injEq, Value.slice.injEq, and_true] at E0
  obtain ⟨rfl, rfl, rfl⟩ := E0
  obtain ⟨a1, rfl, rfl, rfl, w1⟩ := open_int Try.underlying3 (hval 1 3 v1 rfl rfl) h1
  have k2 := h2
  have lt2 : ∀ x ∈ p2, x.block < W.heap.size := by obtain ⟨m, hm⟩ := k2; exact DataW.trod_lt m _ _ _ hm
  obtain ⟨cs2, rfl, hs2⟩ := okWide_struct Try.underlying26 (hval 2 26 v2 rfl rfl)
  rw [show Try.prog.cellsOf 26 = 5 from by kernel_rfl] at hs2
  obtain ⟨L2⟩ := cs2
  obtain ⟨c2_0, c2_1, c2_2, c2_3, c2_4, rfl⟩ := cells5 hs2
  obtain ⟨fuel2, hf2⟩ := h2
  replace hf2 : DataW.trod enc Try.prog W 0 (fun _ => true) true fuel2 26 [c2_0, c2_1, c2_2, c2_3, c2_4] = some (d2, p2) := hf2
  obtain ⟨a2_0, a2_1, a2_2, a2_3, a2_4, rfl, rfl, rfl, rfl, rfl⟩ := flds26 hf2
  clear hA0 hval0 hsz0
  obtain ⟨k, h⟩ := Pure.DynamicsReference l0 a1 a2_0 a2_1 a2_2 a2_3 a2_4 w1
  refine (XDynamicsReference.railplanlaw6_DynamicsReference.calls k _ _ l0 a1 a2_0 a2_1 a2_2 a2_3 a2_4 true W hr0 hc0 h ⟨rfl⟩).mono fun e W' ⟨he, bel⟩ => ?_
  subst he
  exact ⟨_, rfl, _, _, _, [], _, [], hW', trodAll_mk1 (shut_bool Try.underlying4 _), (trodAll_cons_mk (Below.trod laidOut (by kernel_rfl) (of_decide_eq_true (by kernel_rfl)) k0 bel lt0) (trodAll_cons_mk (shut_int Try.underlying3 w1) (trodAll_cons_mk (Below.trod laidOut (by kernel_rfl) (of_decide_eq_true (by kernel_rfl)) k2 bel lt2) trodAll_mk0))), rfl, bel.frame _, fun h => by cases h⟩
theorem over : Rows.dynamicsReferenceRow.holds Try.pinned (OpenSpec.ofChange Rows.dynamicsReferenceSpec) :=
  OpenClaim.holds_of_wide 9 Try.f9 rfl rfl rfl rfl rfl rfl rfl ⟨rfl, rfl, rfl, rfl, rfl⟩ rfl rfl rfl rfl rfl (by kernel_rfl) Try.func9 (by kernel_rfl)
    (of_decide_eq_true (by kernel_rfl)) (by unfold Func.isWrapper; first | (rw [if_pos (by decide +kernel)]; kernel_rfl) | (rw [if_neg (by decide +kernel)]; exact ⟨rfl, rfl⟩))
    (fun os started H enc _ => lifted os started H enc)
theorem proved : Rows.DynamicsReferenceSaid := over
#print axioms proved
end Go.Proofs.Ytfnpoalffpnllaa.dynamicsReference
namespace Go.Proofs.Ytfnpoalffpnllaa
/-- The row, under a short name, for the claim. -/
theorem dynamicsReference_holds : Rows.DynamicsReferenceSaid := dynamicsReference.proved
end Go.Proofs.Ytfnpoalffpnllaa
