-- This session's own text, written by wip/tools/xall.py after the form of the kit's print.
import Derived.Test.YtpioelilfhkfdaaXAllx0
import Derived.Test.YtpioelilfhkfdaaXAllx5
namespace Go.Proofs.Ytpioelilfhkfdaa.XAll
open Go.RowKit Go.Proofs.YtpioelilfhkfdaaW.PrintWords Go.Proofs.YtpioelilfhkfdaaW.PrintLast Go.Proofs.YtpioelilfhkfdaaW.PrintMore
attribute [local go_sem] max2_int min2_int max_two min_two max_three min_three max_four min_four   -- for this text's walks alone
set_option linter.unusedVariables false
set_option linter.unusedSimpArgs false

/-! ### network_Check: function 57 -/
/-- An activity is not permitted. -/
def badAct (P last : Int) (a : S62) : Bool :=
 !(decide (0 ≤ a.f1) && decide (a.f1 ≤ last)) || (!(decide (0 ≤ a.f2) && decide (a.f2 ≤ last)) || (decide (a.f1 = a.f2) || (decide (a.f3 < -65536) || (decide (a.f3 > a.f4) || (decide (a.f4 > 65536) || (decide (a.f4 - a.f3 ≥ P) || !(decide (0 ≤ a.f5) && decide (a.f5 ≤ 1048576))))))))
theorem ret_bool {a b : Bool} (h : a = b) : Ending.returned (.bool a) = .returned (.bool b) := by rw [h]
theorem within_any (a0 a1 a2 : Int) (w : World) : Calls Try.prog 70 #[.int .i64 a0, .int .i64 a1, .int .i64 a2] w fun e w' => e = .returned (.bool (decide (a1 ≤ a0) && decide (a0 ≤ a2))) ∧ Drawn0 w w' := by
 refine network_within.calls a0 a1 a2 _ w ?_
 unfold network_within.f
 by_cases h : a0 ≥ a1
 ·rw [if_pos h]; simp [h]
 ·rw [if_neg h]; simp [h]
set_option maxHeartbeats 1000000 in
theorem chk1 (P last : Int) (a : S62) (w : World) (bL bN : Nat) (hL : w.cell? ⟨bL, 0, none⟩ = some (.int .i64 last)) (hN : w.cell? ⟨bN, 0, none⟩ = some (.int .i64 P)) :
  Calls Try.prog 72 #[.agg #[.int .i64 a.f0, .int .i64 a.f1, .int .i64 a.f2, .int .i64 a.f3, .int .i64 a.f4, .int .i64 a.f5], .pointer (some ⟨bL, 0, none⟩), .pointer (some ⟨bN, 0, none⟩)] w fun e w' => e = .returned (.bool (badAct P last a)) ∧ Below w.heap.size w w' := by
 have hL' : ∀ o, (w.alloc o).cell? ⟨bL, 0, none⟩ = some (.int .i64 last) := fun o => pw_cell_below ((Below.refl _ _).alloc (Nat.le_refl _) o) hL
 have hN' : ∀ o, (w.alloc o).cell? ⟨bN, 0, none⟩ = some (.int .i64 P) := fun o => pw_cell_below ((Below.refl _ _).alloc (Nat.le_refl _) o) hN
 go_enter Try.func72, Try.ntmps72
 go_wp2_with (go_at_call 70; refine (within_any _ _ _ _).mono ?_; rintro e w' ⟨rfl, hd⟩; obtain ⟨nq, rfl⟩ := hd)
 all_goals go_ret
 all_goals refine ⟨ret_bool ?_, ?_⟩
 all_goals first | exact (Below.refl _ _).alloc (Nat.le_refl _) _ | exact pw_below_drewN ((Below.refl _ _).alloc (Nat.le_refl _) _) _ | exact pw_below_drewN (pw_below_drewN ((Below.refl _ _).alloc (Nat.le_refl _) _) _) _ | exact pw_below_drewN (pw_below_drewN (pw_below_drewN ((Below.refl _ _).alloc (Nat.le_refl _) _) _) _) _ | skip
 all_goals (try (unfold badAct; simp; done))
 all_goals (try (rw [Bool.eq_iff_iff]; unfold badAct; simp; omega))
theorem rd36 (l : List S62) (k : Nat) (h : k < l.length) : rd_T62 l (k : Int) = l[k] := by
 unfold rd_T62
 rw [Int.toNat_natCast, List.getD_eq_getElem?_getD, List.getElem?_eq_getElem h]
 rfl
def Idx (p : S62 → Bool) (l : List S62) (w : World) (e : Ending) (w' : World) : Prop := ∃ r : Int, e = .returned (.int .i64 r) ∧ (0 ≤ r ↔ l.any p = true) ∧ Below w.heap.size w w'
set_option maxHeartbeats 1000000 in
theorem idx36 (P last : Int) (w : World) (A : Option Addr) (c : Nat) (l : List S62) (hr : Kd.C k62 w A l.length l) (bL bN : Nat) (hL : w.cell? ⟨bL, 0, none⟩ = some (.int .i64 last)) (hN : w.cell? ⟨bN, 0, none⟩ = some (.int .i64 P)) :
  Calls Try.prog 79 #[.slice A l.length c, .func (.func 72) #[] #[.pointer (some ⟨bL, 0, none⟩), .pointer (some ⟨bN, 0, none⟩)]] w (Idx (badAct P last) l w) := by
 have hm : l.length ≤ 9223372036854775807 := hr.2.1
 have HR := Aside0.mk hr
 clear hr
 have HL := Aside0.mk hL
 have HN := Aside0.mk hN
 clear hL hN
 go_enter Try.func79, Try.ntmps79
 go_wp2_with fail
 go_loopg [8] l.length (fun kq v w' => ∃ i : Nat, v = .int .i64 i ∧ Aside0 (i + kq = l.length) ∧ Aside0 (∀ j, j < i → badAct P last (rd_T62 l (j : Int)) = false) ∧ Aside0 (Below w.heap.size w w'))
 case atStart => exact ⟨0, rfl, ⟨by omega⟩, ⟨fun j hj => absurd hj (by omega)⟩, ⟨Below.refl _ _⟩⟩
 case round =>
  obtain ⟨i, rfl, HK, HF, HB⟩ := hrel
  have hle : i ≤ l.length := by have := HK.out; omega
  by_cases hlt : i < l.length
  ·obtain ⟨ad, rfl, hc0, hc1, hc2, hc3, hc4, hc5⟩ := at_T62 (Kd.C_below HR.out HB.out) (i : Int) (by omega) (by omega)
   simp only [Int.toNat_natCast] at hc0 hc1 hc2 hc3 hc4 hc5
   have hL' : wr.cell? ⟨bL, 0, none⟩ = some (.int .i64 last) := pw_cell_below HB.out HL.out
   have hN' : wr.cell? ⟨bN, 0, none⟩ = some (.int .i64 P) := pw_cell_below HB.out HN.out
   have hx : rd_T62 l (i : Int) = rd_T62 l (i : Int) := rfl
   clear hx
   generalize hx : rd_T62 l (i : Int) = x at *
   have HX := Aside0.mk hx
   clear hx
   cases hb : badAct P last x with
   | true =>
    go_wp2_with (go_at_call 72; refine (chk1 P last x _ bL bN hL' hN').mono ?_; rintro e w' ⟨rfl, hd⟩)
    go_ret
    exact ⟨(i : Int), rfl, ⟨fun _ => List.any_eq_true.2 ⟨x, by rw [← HX.out, rd36 l i hlt]; exact List.getElem_mem hlt, hb⟩, fun _ => by omega⟩, below_step HB.out hd⟩
   | false =>
    go_wp2_with (go_at_call 72; refine (chk1 P last x _ bL bN hL' hN').mono ?_; rintro e w' ⟨rfl, hd⟩)
    go_roundg (gk - 1)
    case measure => have := HK.out; omega
    case rel =>
     refine ⟨i + 1, by go_num, ⟨by have := HK.out; omega⟩, ⟨fun j hj => ?_⟩, ⟨below_step HB.out hd⟩⟩
     rcases Nat.lt_or_ge j i with h1 | h1
     ·exact HF.out j h1
     ·rw [show j = i by omega, HX.out]; exact hb
  ·go_wp2_with fail
   go_ret
   refine ⟨-1, rfl, ⟨fun h => absurd h (by omega), fun h => ?_⟩, HB.out⟩
   obtain ⟨x, hx, hbx⟩ := List.any_eq_true.1 h
   obtain ⟨j, hj, e⟩ := List.getElem_of_mem hx
   have h1 := HF.out j (by omega)
   rw [rd36 l j hj, e, hbx] at h1
   exact absurd h1 (by simp)
theorem contains36 (P last : Int) (w : World) (A : Option Addr) (c : Nat) (l : List S62) (hr : Kd.C k62 w A l.length l) (bL bN : Nat) (hL : w.cell? ⟨bL, 0, none⟩ = some (.int .i64 last)) (hN : w.cell? ⟨bN, 0, none⟩ = some (.int .i64 P)) :
  Calls Try.prog 71 #[.slice A l.length c, .func (.func 72) #[] #[.pointer (some ⟨bL, 0, none⟩), .pointer (some ⟨bN, 0, none⟩)]] w fun e w' => e = .returned (.bool (l.any (badAct P last))) ∧ Below w.heap.size w w' := by
 go_enter Try.func71, Try.ntmps71
 go_wp2_with (go_at_call 79; refine (idx36 P last _ A c l hr bL bN hL hN).mono ?_; rintro e w' ⟨r, rfl, hiff, hd⟩)
 go_ret
 exact ⟨ret_bool (by rw [Bool.eq_iff_iff]; simp [hiff]), hd⟩
/-- A network is permitted. -/
def okNet (P : Int) (ev : List S60) (ac : List S62) : Bool := decide (2 ≤ P ∧ P ≤ 7200 ∧ (ev.length : Int) ≤ 48 ∧ (ac.length : Int) ≤ 512) && !(ac.any (badAct P ((ev.length : Int) - 1)))
set_option maxHeartbeats 1000000 in
theorem check_any (P : Int) (A1 : Option Addr) (c1 : Nat) (l1 : List S60) (A2 : Option Addr) (c2 : Nat) (l2 : List S62) (w : World) (hm : l1.length ≤ 9223372036854775807) (hr2 : Kd.C k62 w A2 l2.length l2) :
  Calls Try.prog 57 #[.agg #[.int .i64 P, .slice A1 l1.length c1, .slice A2 l2.length c2]] w fun e w' => e = .returned (.bool (okNet P l1 l2)) ∧ Below w.heap.size w w' := by
 have hm2 : l2.length ≤ 9223372036854775807 := hr2.2.1
 have HR := Aside0.mk hr2
 clear hr2
 go_enter Try.func57, Try.ntmps57
 go_wp2_with (first | (go_at_call 70; refine (within_any _ _ _ _).mono ?_; rintro e w' ⟨rfl, hd⟩; obtain ⟨nq, rfl⟩ := hd))
 ·go_ret
  refine ⟨ret_bool ?_, by repeat (first | exact Below.refl _ _ | apply below_alloc | apply pw_below_drewN | apply below_drew1)⟩
  unfold okNet
  rw [decide_eq_false (by omega)]
  rfl
 ·refine (contains36 P ((l1.length : Int) - 1) _ A2 c2 l2 (Kd.C_below HR.out ?_) (w.heap.size + 1) w.heap.size ?_ ?_).mono ?_
  ·repeat (first | exact Below.refl _ _ | apply below_alloc | apply pw_below_drewN | apply below_drew1)
  ·go_simp
  ·go_simp
  ·rintro e w' ⟨rfl, hd⟩
   go_wp2_with fail
   go_ret
   refine ⟨ret_bool ?_, below_step ?_ hd⟩
   ·unfold okNet
    rw [decide_eq_true (by omega)]
    simp
   ·repeat (first | exact Below.refl _ _ | apply below_alloc | apply pw_below_drewN | apply below_drew1)
 all_goals
  go_ret
  refine ⟨ret_bool ?_, by repeat (first | exact Below.refl _ _ | apply below_alloc | apply pw_below_drewN | apply below_drew1)⟩
  unfold okNet
  rw [decide_eq_false (by omega)]
  rfl
def network_Check.f (a0_0 : Int) (l0_1 : List S60) (l0_2 : List S62) : Option Bool := some (okNet a0_0 l0_1 l0_2)
theorem network_Check.calls (a0_0 : Int) (A0_1 : Option Addr) (c0_1 : Nat) (l0_1 : List S60) (A0_2 : Option Addr) (c0_2 : Nat) (l0_2 : List S62) (r : Bool) (w : World) (hr0_1 : Kd.C k60 w A0_1 l0_1.length l0_1) (hc0_1 : l0_1.length ≤ c0_1) (hr0_2 : Kd.C k62 w A0_2 l0_2.length l0_2) (hc0_2 : l0_2.length ≤ c0_2) (h : network_Check.f a0_0 l0_1 l0_2 = some r) :
  Calls Try.prog 57 #[.agg #[.int .i64 a0_0, .slice A0_1 l0_1.length c0_1, .slice A0_2 l0_2.length c0_2]] w fun e w' => e = .returned (.bool r) ∧ Below w.heap.size w w' := by
 obtain rfl := Option.some.inj h
 exact check_any a0_0 A0_1 c0_1 l0_1 A0_2 c0_2 l0_2 w hr0_1.2.1 hr0_2

end Go.Proofs.Ytpioelilfhkfdaa.XAll
