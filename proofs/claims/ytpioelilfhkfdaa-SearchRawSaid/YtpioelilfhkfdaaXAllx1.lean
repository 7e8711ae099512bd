-- This session's own text, written by wip/tools/xall.py after the form of the kit's print.
import Derived.Test.YtpioelilfhkfdaaXAllx0
namespace Go.Proofs.Ytpioelilfhkfdaa.XAll
open Go.RowKit Go.Proofs.YtpioelilfhkfdaaW.PrintWords Go.Proofs.YtpioelilfhkfdaaW.PrintLast Go.Proofs.YtpioelilfhkfdaaW.PrintMore
attribute [local go_sem] max2_int min2_int max_two min_two max_three min_three max_four min_four   -- for this text's walks alone
set_option linter.unusedVariables false
set_option linter.unusedSimpArgs false

/-! ### network_within: function 70 -/
def network_within.f (a0 : Int) (a1 : Int) (a2 : Int) : Option (Bool) := if a0 ≥ a1 then (some (decide (a0 ≤ a2))) else (some false)
set_option maxHeartbeats 8000000 in
set_option maxRecDepth 100000 in
theorem network_within.calls (a0 : Int) (a1 : Int) (a2 : Int) (r : Bool) (w : World) (h : network_within.f a0 a1 a2 = some r) :
  Calls Try.prog 70 #[.int .i64 a0, .int .i64 a1, .int .i64 a2] w fun e w' => e = .returned (.bool r) ∧ Drawn0 w w' := by
 have H : (if a0 ≥ a1 then (some (decide (a0 ≤ a2))) else (some false)) = some r := h
 clear h
 by_cases c4 : a0 ≥ a1
 ·rw [if_pos c4] at H
  have c4b0 : decide (a1 ≤ a0) = true := qac c4
  clear c4
  obtain rfl := Option.some.inj H
  go_enter Try.func70, Try.ntmps70
  go_wp2
  go_ret
  exact ⟨by first | rfl | (simp; done) | (simp [*]; done), by repeat (first | exact Drawn0.refl _ | apply Drawn0.step)⟩
 ·rw [if_neg c4] at H
  have c4b0 : decide (a1 ≤ a0) = false := qad c4
  clear c4
  obtain rfl := Option.some.inj H
  go_enter Try.func70, Try.ntmps70
  go_wp2
  go_ret
  exact ⟨by first | rfl | (simp; done) | (simp [*]; done), by repeat (first | exact Drawn0.refl _ | apply Drawn0.step)⟩

-- NOT PRINTED: function 79 (api_Activity_79)

-- NOT PRINTED: function 71 (api_Activity_71)

/-! ### network_Check: function 57 -/
/-- An activity is not permitted. -/
def badAct (P last : Int) (a : S62) : Bool :=
 !(decide (0 ≤ a.f1) && decide (a.f1 ≤ last)) || (!(decide (0 ≤ a.f2) && decide (a.f2 ≤ last)) || (decide (a.f1 = a.f2) || (decide (a.f3 < -65536) || (decide (a.f3 > a.f4) || (decide (a.f4 > 65536) || (decide (a.f4 - a.f3 ≥ P) || !(decide (0 ≤ a.f5) && decide (a.f5 ≤ 1048576))))))))
theorem ret_bool {a b : Bool} (h : a = b) : Ending.returned (.bool a) = .returned (.bool b) := by rw [h]
theorem within_any (a0 a1 a2 : Int) (w : World) : Calls Try.prog 70 #[.int .i64 a0, .int .i64 a1, .int .i64 a2] w fun e w' => e = .returned (.bool (decide (a1 ≤ a0) && decide (a0 ≤ a2))) ∧ Drawn0 w w' := by
 refine network_within.calls a0 a1 a2 _ w ?_
 unfold network_within.f
 by_cases h : a0 ≥ a1
 ·rw [if_pos h]; simp [h]
 ·rw [if_neg h]; simp [h]
set_option maxHeartbeats 1000000 in
theorem chk1 (P last : Int) (a : S62) (w : World) (bL bN : Nat) (hL : w.cell? ⟨bL, 0, none⟩ = some (.int .i64 last)) (hN : w.cell? ⟨bN, 0, none⟩ = some (.int .i64 P)) :
  Calls Try.prog 72 #[.agg #[.int .i64 a.f0, .int .i64 a.f1, .int .i64 a.f2, .int .i64 a.f3, .int .i64 a.f4, .int .i64 a.f5], .pointer (some ⟨bL, 0, none⟩), .pointer (some ⟨bN, 0, none⟩)] w fun e w' => e = .returned (.bool (badAct P last a)) ∧ Below w.heap.size w w' := by
 have hL' : ∀ o, (w.alloc o).cell? ⟨bL, 0, none⟩ = some (.int .i64 last) := fun o => pw_cell_below ((qaj _ _).alloc (Nat.le_refl _) o) hL
 have hN' : ∀ o, (w.alloc o).cell? ⟨bN, 0, none⟩ = some (.int .i64 P) := fun o => pw_cell_below ((qaj _ _).alloc (Nat.le_refl _) o) hN
 go_enter Try.func72, Try.ntmps72
 go_wp2_with (go_at_call 70; refine (within_any _ _ _ _).mono ?_; rintro e w' ⟨rfl, hd⟩; obtain ⟨nq, rfl⟩ := hd)
 all_goals go_ret
 all_goals refine ⟨ret_bool ?_, ?_⟩
 all_goals first | exact (qaj _ _).alloc (Nat.le_refl _) _ | exact qb ((qaj _ _).alloc (Nat.le_refl _) _) _ | exact qb (qb ((qaj _ _).alloc (Nat.le_refl _) _) _) _ | exact qb (qb (qb ((qaj _ _).alloc (Nat.le_refl _) _) _) _) _ | skip
 all_goals (try (unfold badAct; simp; done))
 all_goals (try (rw [Bool.eq_iff_iff]; unfold badAct; simp; omega))
theorem rd36 (l : List S62) (k : Nat) (h : k < l.length) : rd_T62 l (k : Int) = l[k] := by
 unfold rd_T62
 rw [Int.toNat_natCast, List.getD_eq_getElem?_getD, List.getElem?_eq_getElem h]
 rfl
def Idx (p : S62 → Bool) (l : List S62) (w : World) (e : Ending) (w' : World) : Prop := ∃ r : Int, e = .returned (.int .i64 r) ∧ (0 ≤ r ↔ l.any p = true) ∧ Below w.heap.size w w'
set_option maxHeartbeats 1000000 in
theorem idx36 (P last : Int) (w : World) (A : Option Addr) (c : Nat) (l : List S62) (hr : Kd.C k62 w A l.length l) (bL bN : Nat) (hL : w.cell? ⟨bL, 0, none⟩ = some (.int .i64 last)) (hN : w.cell? ⟨bN, 0, none⟩ = some (.int .i64 P)) :
  Calls Try.prog 79 #[.slice A l.length c, .func (.func 72) #[] #[.pointer (some ⟨bL, 0, none⟩), .pointer (some ⟨bN, 0, none⟩)]] w (Idx (badAct P last) l w) := by
 have hm : l.length ≤ 9223372036854775807 := hr.2.1
 have HR := qo hr
 clear hr
 have HL := qo hL
 have HN := qo hN
 clear hL hN
 go_enter Try.func79, Try.ntmps79
 go_wp2_with fail
 go_loopg [8] l.length (fun kq v w' => ∃ i : Nat, v = .int .i64 i ∧ Aside0 (i + kq = l.length) ∧ Aside0 (∀ j, j < i → badAct P last (rd_T62 l (j : Int)) = false) ∧ Aside0 (Below w.heap.size w w'))
 case atStart => exact ⟨0, rfl, ⟨by omega⟩, ⟨fun j hj => absurd hj (by omega)⟩, ⟨qaj _ _⟩⟩
 case round =>
  obtain ⟨i, rfl, HK, HF, HB⟩ := hrel
  have hle : i ≤ l.length := by have := HK.out; omega
  by_cases hlt : i < l.length
  ·obtain ⟨ad, rfl, hc0, hc1, hc2, hc3, hc4, hc5⟩ := at_T62 (qs HR.out HB.out) (i : Int) (by omega) (by omega)
   simp only [Int.toNat_natCast] at hc0 hc1 hc2 hc3 hc4 hc5
   have hL' : wr.cell? ⟨bL, 0, none⟩ = some (.int .i64 last) := pw_cell_below HB.out HL.out
   have hN' : wr.cell? ⟨bN, 0, none⟩ = some (.int .i64 P) := pw_cell_below HB.out HN.out
   have hx : rd_T62 l (i : Int) = rd_T62 l (i : Int) := rfl
   clear hx
   generalize hx : rd_T62 l (i : Int) = x at *
   have HX := qo hx
   clear hx
   cases hb : badAct P last x with
   | true =>
    go_wp2_with (go_at_call 72; refine (chk1 P last x _ bL bN hL' hN').mono ?_; rintro e w' ⟨rfl, hd⟩)
    go_ret
    exact ⟨(i : Int), rfl, ⟨fun _ => List.any_eq_true.2 ⟨x, by rw [← HX.out, rd36 l i hlt]; exact List.getElem_mem hlt, hb⟩, fun _ => by omega⟩, qt HB.out hd⟩
   | false =>
    go_wp2_with (go_at_call 72; refine (chk1 P last x _ bL bN hL' hN').mono ?_; rintro e w' ⟨rfl, hd⟩)
    go_roundg (gk - 1)
    case measure => have := HK.out; omega
    case rel =>
     refine ⟨i + 1, by go_num, ⟨by have := HK.out; omega⟩, ⟨fun j hj => ?_⟩, ⟨qt HB.out hd⟩⟩
     rcases Nat.lt_or_ge j i with h1 | h1
     ·exact HF.out j h1
     ·rw [show j = i by omega, HX.out]; exact hb
  ·go_wp2_with fail
   go_ret
   refine ⟨-1, rfl, ⟨fun h => absurd h (by omega), fun h => ?_⟩, HB.out⟩
   obtain ⟨x, hx, hbx⟩ := List.any_eq_true.1 h
   obtain ⟨j, hj, e⟩ := List.getElem_of_mem hx
   have h1 := HF.out j (by omega)
   rw [rd36 l j hj, e, hbx] at h1
   exact absurd h1 (by simp)
theorem contains36 (P last : Int) (w : World) (A : Option Addr) (c : Nat) (l : List S62) (hr : Kd.C k62 w A l.length l) (bL bN : Nat) (hL : w.cell? ⟨bL, 0, none⟩ = some (.int .i64 last)) (hN : w.cell? ⟨bN, 0, none⟩ = some (.int .i64 P)) :
  Calls Try.prog 71 #[.slice A l.length c, .func (.func 72) #[] #[.pointer (some ⟨bL, 0, none⟩), .pointer (some ⟨bN, 0, none⟩)]] w fun e w' => e = .returned (.bool (l.any (badAct P last))) ∧ Below w.heap.size w w' := by
 go_enter Try.func71, Try.ntmps71
 go_wp2_with (go_at_call 79; refine (idx36 P last _ A c l hr bL bN hL hN).mono ?_; rintro e w' ⟨r, rfl, hiff, hd⟩)
 go_ret
 exact ⟨ret_bool (by rw [Bool.eq_iff_iff]; simp [hiff]), hd⟩
/-- A network is permitted. -/
def okNet (P : Int) (ev : List S60) (ac : List S62) : Bool := decide (2 ≤ P ∧ P ≤ 7200 ∧ (ev.length : Int) ≤ 48 ∧ (ac.length : Int) ≤ 512) && !(ac.any (badAct P ((ev.length : Int) - 1)))
set_option maxHeartbeats 1000000 in
theorem check_any (P : Int) (A1 : Option Addr) (c1 : Nat) (l1 : List S60) (A2 : Option Addr) (c2 : Nat) (l2 : List S62) (w : World) (hm : l1.length ≤ 9223372036854775807) (hr2 : Kd.C k62 w A2 l2.length l2) :
  Calls Try.prog 57 #[.agg #[.int .i64 P, .slice A1 l1.length c1, .slice A2 l2.length c2]] w fun e w' => e = .returned (.bool (okNet P l1 l2)) ∧ Below w.heap.size w w' := by
 have hm2 : l2.length ≤ 9223372036854775807 := hr2.2.1
 have HR := qo hr2
 clear hr2
 go_enter Try.func57, Try.ntmps57
 go_wp2_with (first | (go_at_call 70; refine (within_any _ _ _ _).mono ?_; rintro e w' ⟨rfl, hd⟩; obtain ⟨nq, rfl⟩ := hd))
 ·go_ret
  refine ⟨ret_bool ?_, by repeat (first | exact qaj _ _ | apply qc | apply qb | apply qd)⟩
  unfold okNet
  rw [qad (by omega)]
  rfl
 ·refine (contains36 P ((l1.length : Int) - 1) _ A2 c2 l2 (qs HR.out ?_) (w.heap.size + 1) w.heap.size ?_ ?_).mono ?_
  ·repeat (first | exact qaj _ _ | apply qc | apply qb | apply qd)
  ·go_simp
  ·go_simp
  ·rintro e w' ⟨rfl, hd⟩
   go_wp2_with fail
   go_ret
   refine ⟨ret_bool ?_, qt ?_ hd⟩
   ·unfold okNet
    rw [qac (by omega)]
    simp
   ·repeat (first | exact qaj _ _ | apply qc | apply qb | apply qd)
 all_goals
  go_ret
  refine ⟨ret_bool ?_, by repeat (first | exact qaj _ _ | apply qc | apply qb | apply qd)⟩
  unfold okNet
  rw [qad (by omega)]
  rfl
def network_Check.f (a0_0 : Int) (l0_1 : List S60) (l0_2 : List S62) : Option Bool := some (okNet a0_0 l0_1 l0_2)
theorem network_Check.calls (a0_0 : Int) (A0_1 : Option Addr) (c0_1 : Nat) (l0_1 : List S60) (A0_2 : Option Addr) (c0_2 : Nat) (l0_2 : List S62) (r : Bool) (w : World) (hr0_1 : Kd.C k60 w A0_1 l0_1.length l0_1) (hc0_1 : l0_1.length ≤ c0_1) (hr0_2 : Kd.C k62 w A0_2 l0_2.length l0_2) (hc0_2 : l0_2.length ≤ c0_2) (h : network_Check.f a0_0 l0_1 l0_2 = some r) :
  Calls Try.prog 57 #[.agg #[.int .i64 a0_0, .slice A0_1 l0_1.length c0_1, .slice A0_2 l0_2.length c0_2]] w fun e w' => e = .returned (.bool r) ∧ Below w.heap.size w w' := by
 obtain rfl := Option.some.inj h
 exact check_any a0_0 A0_1 c0_1 l0_1 A0_2 c0_2 l0_2 w hr0_1.2.1 hr0_2

/-! ### cycles_alone: function 80 -/
def cycles_alone.l0 : Nat → List Int → Int → Int → Option (List Int)
 | 0, _, _, _ => none
 | k + 1, x3, x8, x9 => if x9 < x8 then (if 0 ≤ x9 then (if x9 < (x3.length : Int) then (cycles_alone.l0 k (x3.set (x9 : Int).toNat x9) x8 (wrap64 (x9 + 1))) else (none)) else (none)) else (some x3)
def cycles_alone.f (k : Nat) (a0 : Int) : Option (List Int) := if 0 ≤ a0 then (if (a0 : Int).toNat ≤ 35184372088832 then ((some (List.replicate (a0 : Int).toNat 0 : List Int)).bind fun y101 => (cycles_alone.l0 k y101 (y101.length : Int) 0)) else (none)) else (none)
theorem cycles_alone.mono_l : ∀ k, (∀ y0 y1 y2, LeO (cycles_alone.l0 k y0 y1 y2) (cycles_alone.l0 (k + 1) y0 y1 y2))
 | 0 => fun _ _ _ r h => by simp [cycles_alone.l0] at h
 | k + 1 => by
  have ih0 := cycles_alone.mono_l k
  ·intro y0 y1 y2
   unfold cycles_alone.l0
   repeat' first
   | (with_reducible exact ih0 _ _ _)
   | (with_reducible exact LeO.refl _)
   | (with_reducible exact LeO.none _)
   | (with_reducible refine LeO.ite ?_ ?_)
   | (with_reducible refine LeO.bind ?_ (fun _ => ?_))
   | exact ih0 _ _ _
   | exact LeO.none _
   | refine LeO.ite ?_ ?_
   | refine LeO.bind ?_ (fun _ => ?_)
theorem cycles_alone.mono : ∀ a0 k, LeO (cycles_alone.f k a0) (cycles_alone.f (k + 1) a0) := by
 intro a0 k
 have ih0 := cycles_alone.mono_l k
 unfold cycles_alone.f
 repeat' first
   | (with_reducible exact ih0 _ _ _)
   | (with_reducible exact LeO.refl _)
   | (with_reducible exact LeO.none _)
   | (with_reducible refine LeO.ite ?_ ?_)
   | (with_reducible refine LeO.bind ?_ (fun _ => ?_))
   | exact ih0 _ _ _
   | exact LeO.none _
   | refine LeO.ite ?_ ?_
   | refine LeO.bind ?_ (fun _ => ?_)
set_option maxHeartbeats 8000000 in
set_option maxRecDepth 100000 in
theorem cycles_alone.calls (k : Nat) (a0 : Int) (r : List Int) (w : World) (h : cycles_alone.f k a0 = some r) :
  Calls Try.prog 80 #[.int .i64 a0] w fun e w' => ∃ v0_ : Value, e = .returned (v0_) ∧ Kd.R (Kd.int .i64) 3 w' w.heap.size (fun _ => True) v0_ r ∧ Below w.heap.size w w' := by
 have HB := qo (qaj w.heap.size w)
 have H : (if 0 ≤ a0 then (if (a0 : Int).toNat ≤ 35184372088832 then ((some (List.replicate (a0 : Int).toNat 0 : List Int)).bind fun y101 => (cycles_alone.l0 k y101 (y101.length : Int) 0)) else (none)) else (none)) = some r := h
 clear h
 by_cases c2 : 0 ≤ a0
 ·rw [if_pos c2] at H
  have c2b0 := eq_true c2
  have c2b1 : decide (0 ≤ a0) = true := qac c2
  clear c2
  by_cases c3 : (a0 : Int).toNat ≤ 35184372088832
  ·rw [if_pos c3] at H
   have c3b0 := eq_true c3
   have c3b1 : decide ((a0 : Int).toNat ≤ 35184372088832) = true := qac c3
   clear c3
   obtain ⟨y101, hy101⟩ : ∃ y_ : List Int, y_ = (List.replicate (a0 : Int).toNat 0) := ⟨_, rfl⟩
   replace H : (cycles_alone.l0 k y101 (y101.length : Int) 0) = some r := by first | (rw [hy101]; with_reducible exact H) | (have H2_ := (Option.bind_some _ _).symm.trans H; rw [hy101]; with_reducible exact H2_) | (have H2_ := (Option.bind_some _ _).symm.trans H; with_reducible exact H2_) | with_reducible exact H | (rw [hy101]; exact H) | exact H
   have Ny101 := qo hy101
   clear hy101
   have H' := qo H
   clear H
   go_enter Try.func80, Try.ntmps80
   go_wp2_with (first | ((with_reducible refine gate_dst (N := 6) rfl ?_); refine Kd.R_make (Kd.int .i64) _ 3 rfl (N := 6) rfl 117 _ _ rfl a0 rfl rfl Try.underlying117 (.int .i64 0) 8 info3 rfl (by decide) (by omega) 0 (ok := fun _ => True) (okp := fun _ => True) rfl (fun _ hk => hk) trivial (qq (by first | (with_reducible assumption) | assumption)) (Nat.le_trans (Nat.mul_le_mul_right _ (qq (by first | (with_reducible assumption) | assumption) : a0.toNat ≤ 35184372088832)) (by omega)) (qaj _ _) (Nat.le_refl _) ?_; intro v102 w4 ho5 hb hg_ hnew_; clear hg_ hnew_; (first | rw [← Ny101.out] at ho5 | (simp only [Int.reduceToNat] at ho5; rw [← Ny101.out] at ho5)); have n0_ := qo (qag ho5 (qu (by repeat (first | (with_reducible first | exact HB.out | apply qc | apply qb | apply qd) | exact HB.out)))); have n1_ := qo (qt (by repeat (first | (with_reducible first | exact HB.out | apply qc | apply qb | apply qd) | exact HB.out)) hb); clear HB; have HO103 := n0_; have HB := n1_; clear n0_ n1_; clear hb ho5; obtain ⟨Ao6, co6, eo6⟩ := qak HO103.out; subst eo6))
   go_loopg [9] k (fun kq v9 w' => ∃ (x3_1 : List Int) (x9_1 : Int), v9 = .int .i64 x9_1 ∧ Aside0 (cycles_alone.l0 kq x3_1 (y101.length : Int) x9_1 = some r) ∧ Aside0 (kq ≤ k) ∧ Aside0 (Kd.R (Kd.int .i64) 3 w' w.heap.size (fun _ => True) (.slice Ao6 y101.length co6) x3_1) ∧ Aside0 (Below w.heap.size w w'))
   case atStart => exact ⟨(y101), (0), (by first | rfl | (simp; done) | (simp [*]; done)), H', ⟨Nat.le_refl _⟩, ⟨by (with_reducible repeat (first | apply qh | apply qg | apply qi)); exact HO103.out⟩, ⟨by repeat (first | (with_reducible first | exact HB.out | apply qc | apply qb | apply qd) | exact HB.out)⟩⟩
   case round =>
    clear H'
    try clear c2
    try clear c2b0
    try clear c2b1
    try clear p2
    try clear c3
    try clear c3b0
    try clear c3b1
    obtain ⟨x3_1, x9_1, rfl, HA, HK1, HO_3, HB⟩ := hrel
    have hl3_1 := (qr HO_3.out).1
    rw [hl3_1] at HO_3
    (try simp only [hl3_1])
    cases gk with
    | zero => exact absurd HA.out (by simp [cycles_alone.l0])
    | succ k1 =>
     have H := HA.out
     clear HA
     simp only [cycles_alone.l0] at H
     by_cases c7 : x9_1 < (y101.length : Int)
     ·rw [if_pos c7] at H
      have c7b0 : decide (x9_1 < (y101.length : Int)) = true := qac c7
      (try (have c7b9_0 := c7b0; simp only [hl3_1] at c7b9_0))
      clear c7
      by_cases c8 : 0 ≤ x9_1
      ·rw [if_pos c8] at H
       have c8b0 : decide (0 ≤ x9_1) = true := qac c8
       clear c8
       by_cases c9 : x9_1 < (x3_1.length : Int)
       ·rw [if_pos c9] at H
        have c9b0 : decide (x9_1 < (x3_1.length : Int)) = true := qac c9
        (try (have c9b9_0 := c9b0; simp only [hl3_1] at c9b9_0))
        clear c9
        obtain ⟨y104, hy104⟩ : ∃ y_ : List Int, y_ = (x3_1.set (x9_1 : Int).toNat x9_1) := ⟨_, rfl⟩
        replace H : (cycles_alone.l0 k1 y104 (y101.length : Int) (wrap64 (x9_1 + 1))) = some r := by first | (rw [hy104]; with_reducible exact H) | (have H2_ := (Option.bind_some _ _).symm.trans H; rw [hy104]; with_reducible exact H2_) | (have H2_ := (Option.bind_some _ _).symm.trans H; with_reducible exact H2_) | with_reducible exact H | (rw [hy104]; exact H) | exact H
        have Ny104 := qo hy104
        clear hy104
        have H' := qo H
        clear H
        have p10 : 0 ≤ (x9_1 : Int) := qq (by first | (with_reducible assumption) | assumption)
        have q10 : (x9_1 : Int) < ((x3_1.length : Int) : Int) := qq (by first | (with_reducible assumption) | assumption)
        obtain ⟨go10, co10, eo10, gb10, gl10, cl10, HG10⟩ := Kd.R_form HO_3.out (by first | omega | (have e_ := (qr HO_3.out).1; omega))
        (first | cases eo10 | (injection eo10 with ea_ en_ ec_; (first | subst ea_ | (injection ea_ with ea_; subst ea_)); subst ec_; clear en_))
        have GB10 := qo gb10
        have GG10 := qo HG10
        clear gb10 gl10 HG10
        obtain ⟨hx10_0, hf10_0⟩ := Kd.R_celln 0 HO_3.out (x9_1 : Int) p10 q10
        replace p10 := eq_true p10
        replace q10 := eq_true q10
        have HP11 := Kd.R_putg HO_3.out (x9_1 : Int) x9_1
        go_wp2_with (first | ((with_reducible refine gate_store (t := 3) (p := 15) rfl ?_); refine store_event (t := 3) (p := 15) (v := ?vo_w12) (w1 := (wr.setCell ⟨go10, (x9_1 : Int).toNat, none⟩ (.int .i64 x9_1))) ?hg ?ho ?hn ?hr ?_; (case ho => rfl); (case hg => rfl); (case hn => rfl); (case hr => first | (go_simp; done) | (go_simp; rfl)); intro w12 hw; have hg : wr.grownBy w12 (some go10) := (by rw [hw]; exact HP11.2); have hp_ : Kd.R (Kd.int .i64) 3 w12 w.heap.size (fun _ => True) (.slice (some ⟨go10, 0, none⟩) x3_1.length co6) y104 := (by rw [hw, Ny104.out]; exact HP11.1); clear HP11; have n0_ := qo (hp_); have n1_ := qo ((by rw [hw]; exact qn (HB.out) GB10.out : Below w.heap.size w w12)); clear HO_3; clear HB; have HO_3 := n0_; have HB := n1_; clear n0_ n1_; clear hg hw hp_))
        (try simp only [← hl3_1])
        go_roundg k1
        case measure => have := HK1.out; omega
        case rel => exact ⟨(y104), (wrap64 (x9_1 + 1)), (by first | rfl | (simp; done) | (simp [*]; done)), H', ⟨by have := HK1.out; omega⟩, ⟨by (try simp only [hl3_1]); (with_reducible repeat (first | apply qh | apply qg | apply qi)); exact HO_3.out⟩, ⟨by repeat (first | (with_reducible first | exact HB.out | apply qc | apply qb | apply qd) | exact HB.out)⟩⟩
       ·rw [if_neg c9] at H
        exact absurd H (by simp)
      ·rw [if_neg c8] at H
       exact absurd H (by simp)
     ·rw [if_neg c7] at H
      have c7b0 : decide (x9_1 < (y101.length : Int)) = false := qad c7
      (try (have c7b9_0 := c7b0; simp only [hl3_1] at c7b9_0))
      clear c7
      obtain rfl := Option.some.inj H
      go_wp2
      go_ret
      exact ⟨_, by first | rfl | (simp [errW_none, errW_some] <;> rfl) | (simp [*, errW_none, errW_some] <;> rfl), by (with_reducible repeat (first | apply qh | apply qg | apply qi)); exact HO_3.out, by repeat (first | (with_reducible first | exact HB.out | apply qc | apply qb | apply qd) | exact HB.out)⟩
  ·rw [if_neg c3] at H
   exact absurd H (by simp)
 ·rw [if_neg c2] at H
  exact absurd H (by simp)

end Go.Proofs.Ytpioelilfhkfdaa.XAll
