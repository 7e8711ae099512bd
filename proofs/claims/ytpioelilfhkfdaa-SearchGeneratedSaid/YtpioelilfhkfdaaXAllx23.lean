-- This session's own text, written by wip/tools/xall.py after the form of the kit's print.
import Derived.Test.YtpioelilfhkfdaaXAllx0
import Derived.Test.YtpioelilfhkfdaaXAllx2
namespace Go.Proofs.Ytpioelilfhkfdaa.XAll
open Go.RowKit Go.Proofs.YtpioelilfhkfdaaW.PrintWords Go.Proofs.YtpioelilfhkfdaaW.PrintLast Go.Proofs.YtpioelilfhkfdaaW.PrintMore
attribute [local go_sem] max2_int min2_int max_two min_two max_three min_three max_four min_four   -- for this text's walks alone
set_option linter.unusedVariables false
set_option linter.unusedSimpArgs false

/-! ### railplankeep_Slack: function 23 -/
/-- What Slack makes of an activity. -/
def slackAct (P : Int) (a : S62) : S62 := ⟨a.f0, a.f1, a.f2, a.f3, mn (a.f4 + P / 2) (a.f3 + P - 1), a.f5⟩
def slackOk (P : Int) (l : List S62) : Bool := decide (0 ≤ P ∧ P ≤ 1000000) && l.all (fun a => decide (-1000000 ≤ a.f3 ∧ a.f3 ≤ 1000000 ∧ -1000000 ≤ a.f4 ∧ a.f4 ≤ 1000000))
def railplankeep_Slack.f (k : Nat) (l0 : List Int) : Option (Int × List S60 × List S62) := (railplankeep_Network.f k l0).bind fun r => if slackOk r.1 r.2.2 = true then some (r.1, r.2.1, r.2.2.map (slackAct r.1)) else none

theorem still_tailK {P : Program} {id : Nat} {Q : Exit → Act → World → Prop} {a : Act} {w : World} {l : List Oper} (n : Nat) (hm : P.follows .mixedOrders = true) (hB : Region.lexTailB .any l.toArray n = true)
  (h : ∀ wd : World, wd = w.drew → wpStill P l.toArray wd (fun a' => wpList P l.toArray Q (l.drop n) a' wd) (l.take n) a) : (Code.region id l.toArray true).wp P Q a w :=
 wp_region_still_tail n hm hB (h _ rfl)
/-- The activities behind i rounds. -/
def slackUp (P : Int) (l : List S62) (i : Nat) : List S62 := (l.take i).map (slackAct P) ++ l.drop i
theorem slackUp_len (P : Int) (l : List S62) (i : Nat) : (slackUp P l i).length = l.length := by
 unfold slackUp
 rw [List.length_append, List.length_map, ← List.length_append, List.take_append_drop]
theorem slackUp_get (P : Int) (l : List S62) (i : Nat) (h : i < l.length) (z : S62) : (slackUp P l i).getD i z = l[i] := by
 unfold slackUp
 rw [List.getD_eq_getElem?_getD, List.getElem?_append_right (by simp; omega)]
 simp [Nat.min_eq_left (Nat.le_of_lt h), List.getElem?_eq_getElem h]
theorem slackUp_set (P : Int) (l : List S62) (i : Nat) (h : i < l.length) : (slackUp P l i).set i (slackAct P l[i]) = slackUp P l (i + 1) := by
 apply List.ext_getElem?
 intro j
 unfold slackUp
 have hl : (List.map (slackAct P) (List.take i l)).length = i := by simp; omega
 have hl2 : (List.map (slackAct P) (List.take (i + 1) l)).length = i + 1 := by simp; omega
 rw [List.getElem?_set]
 by_cases hj : i = j
 ·subst hj
  rw [if_pos rfl, if_pos (by simp; omega), List.getElem?_append_left (by omega), List.getElem?_map, List.getElem?_take, if_pos (by omega), List.getElem?_eq_getElem h]
  rfl
 ·rw [if_neg hj]
  by_cases h2 : j < i
  ·rw [List.getElem?_append_left (by omega), List.getElem?_append_left (by omega), List.getElem?_map, List.getElem?_map, List.getElem?_take, List.getElem?_take, if_pos h2, if_pos (by omega)]
  ·rw [List.getElem?_append_right (by omega), List.getElem?_append_right (by omega), hl, hl2, List.getElem?_drop, List.getElem?_drop]
   congr 1
   omega
theorem slackUp_end (P : Int) (l : List S62) : slackUp P l l.length = l.map (slackAct P) := by
 unfold slackUp
 rw [List.take_length, List.drop_length, List.append_nil]
theorem slackOk_get {P : Int} {l : List S62} (h : slackOk P l = true) : (0 ≤ P ∧ P ≤ 1000000) ∧ ∀ i (hi : i < l.length), (-1000000 ≤ l[i].f3 ∧ l[i].f3 ≤ 1000000) ∧ (-1000000 ≤ l[i].f4 ∧ l[i].f4 ≤ 1000000) := by
 unfold slackOk at h
 rw [Bool.and_eq_true, decide_eq_true_eq, List.all_eq_true] at h
 refine ⟨h.1, fun i hi => ?_⟩
 have := qq (h.2 l[i] (List.getElem_mem hi))
 omega
theorem rd36g (l : List S62) (i : Nat) (h : i < l.length) : rd_T62 l (i : Int) = l[i] := by
 unfold rd_T62
 rw [Int.toNat_natCast, List.getD_eq_getElem?_getD, List.getElem?_eq_getElem h]
 rfl
/-- Slack's memory behind some rounds. -/
def SlackSt (w W : World) (g2 g3 : Nat) (P : Int) (Ae Aa : Option Addr) (ce ca : Nat) (ev : List S60) (ac : List S62) : Prop :=
 W.heap[g2]? = some (.cells #[.int .i64 0, .slice none 0 0, .slice none 0 0] 26 (0, 0)) ∧ W.heap[g3]? = some (.cells #[.int .i64 P, .slice Ae ev.length ce, .slice Aa ac.length ca] 26 (0, 0)) ∧ Kd.R k60 60 W w.heap.size (fun _ => True) (.slice Ae ev.length ce) ev ∧ Kd.R k62 62 W w.heap.size (fun _ => True) (.slice Aa ac.length ca) ac ∧ Below w.heap.size w W ∧ g2 ≠ g3 ∧ w.heap.size ≤ g2
theorem slack_step {w W : World} {g2 g3 ga : Nat} {P : Int} {Ae : Option Addr} {ce cap : Nat} {ev : List S60} {ac : List S62} {i : Nat} (h : SlackSt w W g2 g3 P Ae (some ⟨ga, 0, none⟩) ce cap ev (slackUp P ac i)) (hi : i < ac.length) (v : Int) (hv : v = mn ((ac[i]).f4 + P / 2) ((ac[i]).f3 + P - 1)) :
  SlackSt w (W.drew.setCell ⟨ga, i * 6 + 4, none⟩ (.int .i64 v)) g2 g3 P Ae (some ⟨ga, 0, none⟩) ce cap ev (slackUp P ac (i + 1)) := by
 obtain ⟨hb2, hb3, ho1, ho2, hbl, hne, hge⟩ := h
 rw [slackUp_len] at hb3 ho2
 obtain ⟨cells, hgac⟩ := Kd.R_typed ho2 ga (by simp [Value.ownBlock])
 have hgw : w.heap.size ≤ ga := Kd.R_base ho2 ga (by simp [Value.ownBlock])
 have n3 : ga ≠ g3 := blk_ne hgac hb3 (by decide)
 have n2 : ga ≠ g2 := blk_ne hgac hb2 (by decide)
 have ho2' := qi ho2
 obtain ⟨c, hcl, hM, hcc, hfr⟩ := Kd.R_elem ho2' ⟨0, 0, 0, 0, 0, 0⟩ (i : Int) (by omega) (by omega)
 rw [Int.toNat_natCast, slackUp_get P ac i hi] at hM
 obtain rfl := k62_openM hM
 have hs := (Kd.R_seg (okp := fun _ => False) ho2' (i : Int) (by omega) (by omega) (j := 4) (seg := [.int .i64 v]) (x' := slackAct P ac[i]) hcl hcc (by show 4 + 1 ≤ 6; omega) (by
  have := k62_mkM W.drew w.heap.size (fun _ => False) (slackAct P ac[i])
  simpa [slackAct, hv] using this) (fun k hk => hk.elim)).1
 rw [Int.toNat_natCast, slackUp_set P ac i hi] at hs
 have hs' : Kd.R k62 62 (W.drew.setCell ⟨ga, i * 6 + 4, none⟩ (.int .i64 v)) w.heap.size (fun _ => True) (.slice (some ⟨ga, 0, none⟩) ac.length cap) (slackUp P ac (i + 1)) := by
  simpa [World.setCells, show k62.sz = 6 from rfl] using hs
 refine ⟨qam (qm hb2) (p := ⟨ga, i * 6 + 4, none⟩) (Ne.symm n2) _, ?_, ?_, ?_, qn (qd hbl) hgw, hne, hge⟩
 ·rw [slackUp_len]
  exact qam (qm hb3) (p := ⟨ga, i * 6 + 4, none⟩) (Ne.symm n3) _
 ·have ho1' := qaf (qi ho1) (qm hgac) (by decide)
  exact qy (qz (p := ⟨ga, i * 6 + 4, none⟩) ho1' (fun k hk => hk.2) _) (fun _ _ => trivial)
 ·rw [slackUp_len]
  exact hs'
theorem railplankeep_Slack.mono : ∀ a0 k, LeO (railplankeep_Slack.f k a0) (railplankeep_Slack.f (k + 1) a0) := by
 intro a0 k
 unfold railplankeep_Slack.f
 exact LeO.bind (railplankeep_Network.mono _ _) (fun _ => LeO.refl _)
set_option maxHeartbeats 1000000 in
set_option maxRecDepth 100000 in
theorem railplankeep_Slack.calls (k : Nat) (A0 : Option Addr) (c0 : Nat) (l0 : List Int) (r1 : Int) (r2 : List S60) (r3 : List S62) (w : World) (hr0 : Kd.C (Kd.int .i64) w A0 l0.length l0) (hc0 : l0.length ≤ c0) (h : railplankeep_Slack.f k l0 = some (r1, r2, r3)) :
  Calls Try.prog 23 #[.slice A0 l0.length c0] w fun e w' => ∃ v1_ v2_ : Value, e = .returned (.agg #[.int .i64 r1, v1_, v2_]) ∧ Kd.R k60 60 w' w.heap.size (fun _ => True) v1_ r2 ∧ Kd.R k62 62 w' w.heap.size (fun _ => True) v2_ r3 ∧ Below w.heap.size w w' := by
 obtain ⟨⟨P, ev, ac⟩, hN, h⟩ := Option.bind_eq_some_iff.mp h
 replace h : (if slackOk P ac = true then some (P, ev, ac.map (slackAct P)) else none) = some (r1, r2, r3) := h
 have hok : slackOk P ac = true := by
  apply Classical.byContradiction
  intro hn
  rw [if_neg hn] at h
  exact absurd h (by simp)
 rw [if_pos hok] at h
 have h' := Option.some.inj h
 clear h
 obtain ⟨h1, h'⟩ := Prod.mk.inj h'
 obtain ⟨h2, h3⟩ := Prod.mk.inj h'
 subst h1 h2 h3
 clear h'
 have hb0 := qc (qaj w.heap.size w) (.cells #[.int .i64 0, .slice none 0 0, .slice none 0 0] 26)
 have hn0 := blk_new w (.cells #[.int .i64 0, .slice none 0 0, .slice none 0 0] 26)
 have HB0 := qo hb0
 have HN0 := qo hn0
 have HN := qo hN
 have HOK := qo (slackOk_get hok)
 have HR := qo hr0
 have HC := qo hc0
 clear hN hok hr0 hc0 hb0 hn0
 go_enter Try.func23, Try.ntmps23
 go_wp2_with (go_at_call 12; refine (railplankeep_Network.calls k A0 c0 l0 P ev ac _ (qs HR.out HB0.out) HC.out HN.out).mono ?_; rintro e w1 ⟨v1, v2, rfl, ho1, ho2, hb1⟩; obtain ⟨Ae, ce, rfl⟩ := qak ho1; obtain ⟨Aa, ca, rfl⟩ := qak ho2; have HO1 := qo (qag ho1 HB0.out.size); have HO2 := qo (qag ho2 HB0.out.size); have HB1 := qo (qt HB0.out hb1); have HN1 := qo (qaa HN0.out hb1); clear ho1 ho2 hb1)
 have hst : SlackSt w (w1.alloc (.cells #[.int .i64 P, .slice Ae ev.length ce, .slice Aa ac.length ca] 26)) w.heap.size w1.heap.size P Ae Aa ce ca ev (slackUp P ac 0) := by
  refine ⟨qk HN1.out _, by rw [slackUp_len]; exact blk_new _ _, qh HO1.out _, ?_, qc HB1.out _, by have := blk_lt HN1.out; omega, Nat.le_refl _⟩
  rw [slackUp_len]
  exact qh HO2.out _
 have HST := qo hst
 clear hst HO1 HO2 HB1 HN1 HB0 HN0
 generalize w1.heap.size = g3 at HST ⊢
 generalize hg2 : w.heap.size = g2 at HST ⊢
 clear hg2
 go_loopg [11] ac.length (fun kq v w' => ∃ i : Nat, v = .int .i64 i ∧ Aside0 (i + kq = ac.length) ∧ Aside0 (SlackSt w w' g2 g3 P Ae Aa ce ca ev (slackUp P ac i)))
 case atStart => exact ⟨0, rfl, ⟨by omega⟩, HST⟩
 case round =>
  clear HST
  obtain ⟨i, rfl, HK, HS⟩ := hrel
  have hle : i ≤ ac.length := by have := HK.out; omega
  obtain ⟨hb2, hb3, ho1, ho2, hbl, hne, hge⟩ := HS.out
  rw [slackUp_len] at hb3
  have c3_2 := (qe hb3 2).trans rfl
  by_cases hlt : i < ac.length
  ·have hp : 0 < (slackUp P ac i).length := by rw [slackUp_len]; omega
   obtain ⟨ga, cap, eg, hga0, hga1, cells, hgac⟩ := Kd.R_form ho2 hp
   rw [slackUp_len] at eg ho2
   injection eg with ea _ ec
   subst ea ec
   have hml := (qr ho2).2.2.2.1
   rw [slackUp_len] at hml
   obtain ⟨c, hcl, hM, hcc, hfr⟩ := Kd.R_elem ho2 ⟨0, 0, 0, 0, 0, 0⟩ (i : Int) (by omega) (by omega)
   rw [Int.toNat_natCast] at hM hcc hfr
   rw [slackUp_get P ac i hlt] at hM
   obtain rfl := k62_openM hM
   obtain ⟨⟨b0, b1⟩, hbd⟩ := HOK.out
   obtain ⟨⟨b2, b3⟩, b4, b5⟩ := hbd i hlt
   have hk3 := hcc 3 _ rfl
   have hk4 := hcc 4 _ rfl
   have hf4 := hfr 4
   have hn3 : ga ≠ g3 := blk_ne hgac hb3 (by decide)
   have hn2 : ga ≠ g2 := blk_ne hgac hb2 (by decide)
   have c3_0 := (qe hb3 0).trans rfl
   rw [show k62.sz = 6 from rfl] at hk3 hk4 hf4
   generalize hx : ac[i] = x at *
   have HX := qo hx
   clear hx
   go_wp2_with fail
   refine still_tailK 20 (by kernel_rfl) (by kernel_rfl) (fun wd hwd => ?_)
   simp only [List.take_succ_cons, List.take_zero, List.drop_succ_cons, List.drop_zero]
   have hbd2 : Below wr.heap.size wr wd := by rw [hwd]; exact qd (qaj _ _)
   have e0 : wd.cell? ⟨g3, 0, none⟩ = some (.int .i64 P) := pw_cell_below hbd2 c3_0
   have e3 := pw_cell_below hbd2 hk3
   have e4 := pw_cell_below hbd2 hk4
   have f4 : wd.frozen? ⟨ga, i * 6 + 4, none⟩ = false := by rw [hwd]; exact hf4
   have HBD := qo hbd2
   have HWD := qo hwd
   clear hk3 hk4 hf4 c3_0 c3_2 hwd hbd2 hcl hM hcc hfr hb2 hb3 ho1 ho2 hbl hgac
   repeat still_step
   refine wpStill_nil ?_
   go_wp2_with fail
   all_goals
    go_roundg (gk - 1)
    case measure => exact Nat.sub_lt (Nat.pos_of_ne_zero (fun hz => Nat.lt_irrefl _ (Nat.lt_of_lt_of_eq hlt (by rw [← HK.out, hz]; rfl)))) Nat.one_pos
    case rel => exact ⟨i + 1, by go_num, ⟨by have := HK.out; omega⟩, ⟨by rw [HWD.out]; exact slack_step HS.out hlt _ (by rw [HX.out]; unfold mn; split <;> omega)⟩⟩
  ·have c3_0 := (qe hb3 0).trans rfl
   have c3_1 := (qe hb3 1).trans rfl
   have c2_0 := (qe hb2 0).trans rfl
   have c2_1 := (qe hb2 1).trans rfl
   have c2_2 := (qe hb2 2).trans rfl
   have f2_0 := qf hb2 0
   have f2_1 := qf hb2 1
   have f2_2 := qf hb2 2
   have hi : i = ac.length := by omega
   rw [hi, slackUp_end] at ho2
   have hg3 : w.heap.size ≤ g2 := hge
   have hbw : Below w.heap.size w (((wr.setCell ⟨g2, 0, none⟩ (.int .i64 P)).setCell ⟨g2, 1, none⟩ (.slice Ae ev.length ce)).setCell ⟨g2, 2, none⟩ (.slice Aa ac.length ca)) := qn (qn (qn hbl hge) hge) hge
   have hgb : (((wr.setCell ⟨g2, 0, none⟩ (.int .i64 P)).setCell ⟨g2, 1, none⟩ (.slice Ae ev.length ce)).setCell ⟨g2, 2, none⟩ (.slice Aa ac.length ca)).heap[g2]? = some (.cells #[.int .i64 P, .slice Ae ev.length ce, .slice Aa ac.length ca] 26 (0, 0)) := by
    simpa using blk_set (blk_set (blk_set hb2 0 (.int .i64 P)) 1 (.slice Ae ev.length ce)) 2 (.slice Aa ac.length ca)
   rw [List.length_map] at ho2
   have hv1 := qz (p := ⟨g2, 2, none⟩) (qz (p := ⟨g2, 1, none⟩) (qz (p := ⟨g2, 0, none⟩) (qaf ho1 hb2 (by decide)) (fun _ hk => hk.2) (.int .i64 P)) (fun _ hk => hk.2) (.slice Ae ev.length ce)) (fun _ hk => hk.2) (.slice Aa ac.length ca)
   have hv2 := qz (p := ⟨g2, 2, none⟩) (qz (p := ⟨g2, 1, none⟩) (qz (p := ⟨g2, 0, none⟩) (qaf ho2 hb2 (by decide)) (fun _ hk => hk.2) (.int .i64 P)) (fun _ hk => hk.2) (.slice Ae ev.length ce)) (fun _ hk => hk.2) (.slice Aa ac.length ca)
   have HV1 := qo (qy (ok' := fun _ => True) hv1 (fun _ _ => trivial))
   have HV2 := qo (qy (ok' := fun _ => True) hv2 (fun _ _ => trivial))
   have HBW := qo hbw
   have HGB := qo hgb
   clear hv1 hv2 hbw hgb ho1 ho2 hb2 hb3 hi
   go_wp2_with fail
   refine bodyPost_ret (results_cell_row rfl _ _ g2 26 #[.int .i64 P, .slice Ae ev.length ce, .slice Aa ac.length ca] (0, 0) _ rfl HGB.out Try.underlying26 rfl (by kernel_rfl)) rfl ?_
   exact ⟨_, _, rfl, HV1.out, HV2.out, HBW.out⟩

end Go.Proofs.Ytpioelilfhkfdaa.XAll
