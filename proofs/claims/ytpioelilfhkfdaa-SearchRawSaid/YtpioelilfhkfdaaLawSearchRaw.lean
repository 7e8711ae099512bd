-- This session's own text, written by wip/tools/rowx.py after the form of the kit's print.
import Derived.Test.YtpioelilfhkfdaaRows
import Derived.Test.YtpioelilfhkfdaaXAllx21
import Derived.Test.YtpioelilfhkfdaaPureSearchRaw
import Derived.Test.YtpioelilfhkfdaaOpens
import Derived.WalkKit
import Derived.ProofKit
import Derived.OpenShut
import Derived.ShutString
import Derived.ChangeOld
import Derived.Below
import Derived.SizedLaws
import Derived.Test.YtpioelilfhkfdaaWSized
namespace Go.Proofs.Ytpioelilfhkfdaa.searchRaw
open Go.ChangeShapes Go.WideShapes Go.ChangeAt Go.RowKit Go.Proofs.YtpioelilfhkfdaaW.PrintWords Go.Proofs.Ytpioelilfhkfdaa.Opens Go.Proofs.Ytpioelilfhkfdaa.XAll
open Go.ChangeMaps (open_string shut_string)
set_option linter.unusedVariables false
theorem own : ownKnob Try.prog.godebug = none := by kernel_rfl
theorem laidOut : laidOutB Try.prog = true := by kernel_rfl
theorem dec60 {H : Type} {enc : TypeId × Value → H} {w : World} {base : Nat} {spare : Nat → Bool} {held : Bool} : Dec enc Try.prog w base spare held 60 k60 := fun n cs x h => by
  have hl := struct_len Try.underlying60 h
  rw [show Try.prog.cellsOf 60 = 3 from by kernel_rfl] at hl
  match cs, hl with
  | [c0, c1, c2], _ =>
    obtain ⟨a0, K0⟩ := field Try.underlying60 h (i := 0) rfl (dec_int Try.underlying3) (by kernel_rfl) (v := c0) rfl
    obtain rfl : c0 = _ := (List.cons.inj K0).1
    obtain ⟨a1, K1⟩ := field Try.underlying60 h (i := 1) rfl (dec_int Try.underlying3) (by kernel_rfl) (v := c1) rfl
    obtain rfl : c1 = _ := (List.cons.inj K1).1
    obtain ⟨a2, K2⟩ := field Try.underlying60 h (i := 2) rfl (dec_int Try.underlying3) (by kernel_rfl) (v := c2) rfl
    obtain rfl : c2 = _ := (List.cons.inj K2).1
    exact ⟨⟨a0, a1, a2⟩, k60_mk w ⟨a0, a1, a2⟩⟩
theorem dec62 {H : Type} {enc : TypeId × Value → H} {w : World} {base : Nat} {spare : Nat → Bool} {held : Bool} : Dec enc Try.prog w base spare held 62 k62 := fun n cs x h => by
  have hl := struct_len Try.underlying62 h
  rw [show Try.prog.cellsOf 62 = 6 from by kernel_rfl] at hl
  match cs, hl with
  | [c0, c1, c2, c3, c4, c5], _ =>
    obtain ⟨a0, K0⟩ := field Try.underlying62 h (i := 0) rfl (dec_int Try.underlying3) (by kernel_rfl) (v := c0) rfl
    obtain rfl : c0 = _ := (List.cons.inj K0).1
    obtain ⟨a1, K1⟩ := field Try.underlying62 h (i := 1) rfl (dec_int Try.underlying3) (by kernel_rfl) (v := c1) rfl
    obtain rfl : c1 = _ := (List.cons.inj K1).1
    obtain ⟨a2, K2⟩ := field Try.underlying62 h (i := 2) rfl (dec_int Try.underlying3) (by kernel_rfl) (v := c2) rfl
    obtain rfl : c2 = _ := (List.cons.inj K2).1
    obtain ⟨a3, K3⟩ := field Try.underlying62 h (i := 3) rfl (dec_int Try.underlying3) (by kernel_rfl) (v := c3) rfl
    obtain rfl : c3 = _ := (List.cons.inj K3).1
    obtain ⟨a4, K4⟩ := field Try.underlying62 h (i := 4) rfl (dec_int Try.underlying3) (by kernel_rfl) (v := c4) rfl
    obtain rfl : c4 = _ := (List.cons.inj K4).1
    obtain ⟨a5, K5⟩ := field Try.underlying62 h (i := 5) rfl (dec_int Try.underlying3) (by kernel_rfl) (v := c5) rfl
    obtain rfl : c5 = _ := (List.cons.inj K5).1
    exact ⟨⟨a0, a1, a2, a3, a4, a5⟩, k62_mk w ⟨a0, a1, a2, a3, a4, a5⟩⟩
theorem cells3 {L : List Value} (h : (Array.mk L).size = 3) : ∃ c0 c1 c2, L = [c0, c1, c2] := by
  match L, h with
  | [c0, c1, c2], _ => exact ⟨c0, c1, c2, rfl⟩
theorem flds26 {H : Type} {enc : TypeId × Value → H} {w : World} {base : Nat} {spare : Nat → Bool} {held : Bool} {n : Nat} {x : DataW H × List MemPlace} {c0 c1 c2 : Value} (h : DataW.trod enc Try.prog w base spare held n 26 [c0, c1, c2] = some x) :
    ∃ a0 l1 A1 cp1 l2 A2 cp2, c0 = .int .i64 a0 ∧ c1 = .slice A1 l1.length cp1 ∧ c2 = .slice A2 l2.length cp2 ∧ l1.length ≤ cp1 ∧ Kd.C k60 w A1 l1.length l1 ∧ l2.length ≤ cp2 ∧ Kd.C k62 w A2 l2.length l2 := by
  obtain ⟨a0, K0⟩ := field Try.underlying26 h (i := 0) rfl (dec_int Try.underlying3) (by kernel_rfl) (v := c0) rfl
  obtain rfl : c0 = _ := (List.cons.inj K0).1
  obtain ⟨l1, K1⟩ := field Try.underlying26 h (i := 1) rfl (dec_slice Try.underlying23 (by kernel_rfl) dec60) (by kernel_rfl) (v := c1) rfl
  obtain ⟨A1, cp1, E1, hc1, hr1⟩ := K1
  obtain rfl : c1 = _ := (List.cons.inj E1).1
  obtain ⟨l2, K2⟩ := field Try.underlying26 h (i := 2) rfl (dec_slice Try.underlying24 (by kernel_rfl) dec62) (by kernel_rfl) (v := c2) rfl
  obtain ⟨A2, cp2, E2, hc2, hr2⟩ := K2
  obtain rfl : c2 = _ := (List.cons.inj E2).1
  exact ⟨a0, l1, A1, cp1, l2, A2, cp2, rfl, rfl, rfl, hc1, hr1, hc2, hr2⟩
set_option maxRecDepth 100000 in
theorem lifted (os : Os) (started : os.Started) (H : Type) (enc : TypeId × Value → H) :
    ReturnsInHanded {} Try.checked os 5 .any (Rows.searchRawSpec.pre6 enc Try.prog Try.f5 Rows.searchRawRow.domain false) (Rows.searchRawSpec.post enc Try.prog Try.f5 false true false false) := by
  refine returnsInHanded_of_change_sized (C := Try.checked) own started (by kernel_rfl) Try.func5
    (ChangeSpec.witness6 (enc := enc) (C := Try.checked) false ⟨#[], #[.agg #[.int .i64 0, .slice none 0 0, .slice none 0 0], .int .i64 0], []⟩ 8 (by kernel_rfl) (by kernel_rfl) (by kernel_rfl) (by kernel_rfl)) ?_
  intro W base args ds gs before hval0 hW hcnd hsz0 _
  have hval : ∀ (j : Nat) t v, Try.f5.params[j]? = some t → args[j]? = some v → Value.okWide Try.prog W .any base t v := hval0
  have hW' := hW
  obtain ⟨p, q, hA0, hV, rfl, hfz, hnd⟩ := hW
  have hA : DataW.TrodAll enc Try.prog W 0 (fun _ => true) true Try.f5.params.toList args.toList ds p := hA0
  rw [Try.params5] at hA hval
  obtain ⟨v0, vs0, d0, ds0, p0, q0, hargs, rfl, rfl, h0, r0⟩ := trodAll_cons hA
  obtain ⟨v1, vs1, d1, ds1, p1, q1, rfl, rfl, rfl, h1, r1⟩ := trodAll_cons r0
  obtain ⟨rfl, rfl, rfl⟩ := trodAll_nil r1
  obtain rfl : args = #[v0, v1] := by cases args; simp_all
  obtain ⟨rfl, rfl⟩ := trodVars_none hV
  have k0 := h0
  have lt0 : ∀ x ∈ p0, x.block < W.heap.size := by obtain ⟨m, hm⟩ := k0; exact DataW.trod_lt m _ _ _ hm
  obtain ⟨cs0, rfl, hs0⟩ := okWide_struct Try.underlying26 (hval 0 26 v0 rfl rfl)
  rw [show Try.prog.cellsOf 26 = 3 from by kernel_rfl] at hs0
  obtain ⟨L0⟩ := cs0
  obtain ⟨c0_0, c0_1, c0_2, rfl⟩ := cells3 hs0
  obtain ⟨fuel0, hf0⟩ := h0
  replace hf0 : DataW.trod enc Try.prog W 0 (fun _ => true) true fuel0 26 [c0_0, c0_1, c0_2] = some (d0, p0) := hf0
  obtain ⟨a0_0, l0_1, A0_1, cp0_1, l0_2, A0_2, cp0_2, rfl, rfl, rfl, hc0_1, hr0_1, hc0_2, hr0_2⟩ := flds26 hf0
  obtain ⟨a1, rfl, rfl, rfl, w1⟩ := open_int Try.underlying3 (hval 1 3 v1 rfl rfl) h1
  clear hA0 hval0 hsz0
  obtain ⟨k, h⟩ := Pure.SearchRaw a0_0 l0_1 l0_2 a1 w1
  refine (XAll.railplanlaw17_SearchRaw.calls k a0_0 _ _ l0_1 _ _ l0_2 a1 true W hr0_1 hc0_1 hr0_2 hc0_2 h ⟨rfl⟩).mono fun e W' ⟨he, bel⟩ => ?_
  subst he
  exact ⟨_, rfl, _, _, _, [], _, [], hW', trodAll_mk1 (shut_bool Try.underlying4 _), (trodAll_cons_mk (Below.trod laidOut (by kernel_rfl) (of_decide_eq_true (by kernel_rfl)) k0 bel lt0) (trodAll_cons_mk (shut_int Try.underlying3 w1) trodAll_mk0)), rfl, bel.frame _, fun h => by cases h⟩
theorem over : Rows.searchRawRow.holds Try.pinned (OpenSpec.ofChange Rows.searchRawSpec) :=
  OpenClaim.holds_of_wide 5 Try.f5 rfl rfl rfl rfl rfl rfl rfl ⟨rfl, rfl, rfl, rfl, rfl⟩ rfl rfl rfl rfl rfl (by kernel_rfl) Try.func5 (by kernel_rfl)
    (of_decide_eq_true (by kernel_rfl)) (by unfold Func.isWrapper; first | (rw [if_pos (by decide +kernel)]; kernel_rfl) | (rw [if_neg (by decide +kernel)]; exact ⟨rfl, rfl⟩))
    (fun os started H enc _ => lifted os started H enc)
theorem proved : Rows.SearchRawSaid := over
#print axioms proved
end Go.Proofs.Ytpioelilfhkfdaa.searchRaw
namespace Go.Proofs.Ytpioelilfhkfdaa
/-- The row, under a short name, for the claim. -/
theorem searchRaw_holds : Rows.SearchRawSaid := searchRaw.proved
end Go.Proofs.Ytpioelilfhkfdaa
