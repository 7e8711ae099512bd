-- This session's own text, written by wip/tools/xall.py after the form of the kit's print.
import Derived.Test.YtnmhdeibjglhcaaXAllx0
import Derived.Test.YtnmhdeibjglhcaaXAllx1
import Derived.Test.YtnmhdeibjglhcaaXAllx5
import Derived.Test.YtnmhdeibjglhcaaXAllx6
import Derived.Test.YtnmhdeibjglhcaaXAllx7
import Derived.Test.YtnmhdeibjglhcaaXAllx9
import Derived.Test.YtnmhdeibjglhcaaXAllx11
import Derived.Test.YtnmhdeibjglhcaaXAllx12
import Derived.Test.YtnmhdeibjglhcaaXAllx13
import Derived.Test.YtnmhdeibjglhcaaXAllx14
namespace Go.Proofs.Ytnmhdeibjglhcaa.XAll
open Go.RowKit Go.Proofs.YtnmhdeibjglhcaaW.PrintWords Go.Proofs.YtnmhdeibjglhcaaW.PrintLast Go.Proofs.YtnmhdeibjglhcaaW.PrintMore
attribute [local go_sem] max2_int min2_int max_two min_two max_three min_three max_four min_four   -- for this text's walks alone
set_option linter.unusedVariables false
set_option linter.unusedSimpArgs false

/-! ### railplanref30_Star: function 38 -/
open StarLib
def rstarLoop (k : Nat) (l0 : List (List Int)) (n : Nat) : Nat → Nat → List (List Int) → Option (List (List Int) × Int)
 | 0, _, b => some (b, 0)
 | q + 1, i, b => (railplanref30_Power.f k l0 (i : Int)).bind fun p => if p.2 = 0 then (if sqB n p.1 = true then rstarLoop k l0 n q (i + 1) (maxOut p.1 n n b) else none) else some (([] : List (List Int)), p.2)
def rstarTail (k : Nat) (l0 m : List (List Int)) : Option (List (List Int) × Int) :=
 if sqB l0.length l0 = true then (if sqB l0.length m = true then rstarLoop k l0 l0.length (l0.length - 1) 1 m else none) else none
def railplanref30_Star.f (k : Nat) (l0 : List (List Int)) : Option ((List (List Int)) × Int) :=
 (railplanref30_CheckMatrix.f k l0).bind fun t => if t = true then ((railplanref30_Mean.f k l0).bind fun u => if u.2.2 = true ∧ u.1 > 0 then some (([] : List (List Int)), 14) else (railplanref30_unit.f k (l0.length : Int)).bind fun m => rstarTail k l0 m) else some (([] : List (List Int)), 1)
theorem rstarLoop_mono (k : Nat) (l0 : List (List Int)) (n : Nat) : ∀ q i b, LeO (rstarLoop k l0 n q i b) (rstarLoop (k + 1) l0 n q i b)
 | 0, _, _ => LeO.refl _
 | q + 1, i, b => by
  unfold rstarLoop
  exact LeO.bind (railplanref30_Power.mono _ _ _) (fun p => LeO.ite (LeO.ite (rstarLoop_mono k l0 n q _ _) (LeO.refl _)) (LeO.refl _))
theorem railplanref30_Star.mono : ∀ a0 k, LeO (railplanref30_Star.f k a0) (railplanref30_Star.f (k + 1) a0) := by
 intro a0 k
 unfold railplanref30_Star.f
 refine LeO.bind (railplanref30_CheckMatrix.mono _ _) (fun t => LeO.ite (LeO.bind (railplanref30_Mean.mono _ _) (fun u => LeO.ite (LeO.refl _) (LeO.bind (railplanref30_unit.mono _ _) (fun m => ?_)))) (LeO.refl _))
 unfold rstarTail
 exact LeO.ite (LeO.ite (rstarLoop_mono _ _ _ _ _ _) (LeO.refl _)) (LeO.refl _)
theorem rstarTail_inv {k : Nat} {l0 m : List (List Int)} {r : List (List Int) × Int} (h : rstarTail k l0 m = some r) : sqB l0.length l0 = true ∧ sqB l0.length m = true ∧ rstarLoop k l0 l0.length (l0.length - 1) 1 m = some r := by
 unfold rstarTail at h
 by_cases h1 : sqB l0.length l0 = true
 ·rw [if_pos h1] at h
  by_cases h2 : sqB l0.length m = true
  ·rw [if_pos h2] at h
   exact ⟨h1, h2, h⟩
  ·rw [if_neg h2] at h; exact absurd h (by simp)
 ·rw [if_neg h1] at h; exact absurd h (by simp)
theorem rstarLoop_inv {k : Nat} {l0 b : List (List Int)} {n q i : Nat} {r : List (List Int) × Int} (h : rstarLoop k l0 n (q + 1) i b = some r) : ∃ p e, railplanref30_Power.f k l0 (i : Int) = some (p, e) ∧ ((e = 0 ∧ sqB n p = true ∧ rstarLoop k l0 n q (i + 1) (maxOut p n n b) = some r) ∨ (¬ e = 0 ∧ r = ([], e))) := by
 unfold rstarLoop at h
 cases h2 : railplanref30_Power.f k l0 (i : Int) with
 | none => rw [h2] at h; exact absurd h (by simp)
 | some t =>
  obtain ⟨p, e⟩ := t
  rw [h2] at h
  refine ⟨p, e, rfl, ?_⟩
  have h' : (if e = 0 then (if sqB n p = true then rstarLoop k l0 n q (i + 1) (maxOut p n n b) else none) else some (([] : List (List Int)), e)) = some r := h
  by_cases he : e = 0
  ·rw [if_pos he] at h'
   by_cases hs : sqB n p = true
   ·rw [if_pos hs] at h'
    exact .inl ⟨he, hs, h'⟩
   ·rw [if_neg hs] at h'; exact absurd h' (by simp)
  ·rw [if_neg he] at h'
   exact .inr ⟨he, (Option.some.inj h').symm⟩
set_option maxHeartbeats 4000000 in
set_option maxRecDepth 100000 in
theorem railplanref30_Star.calls (k : Nat) (A0 : Option Addr) (c0 : Nat) (l0 : List (List Int)) (r1 : List (List Int)) (r2 : Int) (w : World) (hr0 : Kd.C (Kd.slice 3 (Kd.int .i64)) w A0 l0.length l0) (hc0 : l0.length ≤ c0) (h : railplanref30_Star.f k l0 = some (r1, r2)) :
  Calls Try.prog 38 #[.slice A0 l0.length c0] w fun e w' => ∃ v0_ : Value, e = .returned (.tuple #[v0_, .int .i64 r2]) ∧ Kd.S (Kd.slice 3 (Kd.int .i64)) 22 w' w.heap.size (fun _ => True) v0_ r1 ∧ Below w.heap.size w w' := by
 unfold railplanref30_Star.f at h
 cases hck : railplanref30_CheckMatrix.f k l0 with
 | none => rw [hck] at h; exact absurd h (by simp)
 | some t =>
  rw [hck] at h
  have HC := Aside0.mk (railplanref30_CheckMatrix.calls k A0 c0 l0 t w hr0 hc0 hck)
  cases t with
  | false =>
   have h2 : (([] : List (List Int)), (1 : Int)) = (r1, r2) := Option.some.inj h
   obtain ⟨rfl, rfl⟩ := Prod.mk.inj h2
   clear h h2 hck hr0 hc0
   go_enter Try.func38, Try.ntmps38
   go_wp2_with (go_at_call 31; refine HC.out.mono ?_; rintro e w' ⟨rfl, hd⟩; obtain ⟨nq, rfl⟩ := hd)
   go_ret2
   exact ⟨_, rfl, Kd.S_nil _ _ _ _ _, by repeat (first | exact Below.refl _ _ | apply pw_below_drewN | apply below_drew1)⟩
  | true =>
   have h1 : ((railplanref30_Mean.f k l0).bind fun u => if u.2.2 = true ∧ u.1 > 0 then some (([] : List (List Int)), 14) else (railplanref30_unit.f k (l0.length : Int)).bind fun m => rstarTail k l0 m) = some (r1, r2) := h
   clear h hck
   cases hme : railplanref30_Mean.f k l0 with
   | none => rw [hme] at h1; exact absurd h1 (by simp)
   | some u =>
    obtain ⟨num, den, ok⟩ := u
    rw [hme] at h1
    have h2 : (if ok = true ∧ num > 0 then some (([] : List (List Int)), (14 : Int)) else (railplanref30_unit.f k (l0.length : Int)).bind fun m => rstarTail k l0 m) = some (r1, r2) := h1
    clear h1
    have HME := Aside0.mk (fun W h1 => railplanref30_Mean.calls k (fun k_ => k_ < W.heap.size) A0 c0 l0 num den ok W (Kd.V_mk hc0 (Kd.C_F (Kd.heap_slice 3 (Kd.heap_int .i64)) h1)) hme)
    have HR := Aside0.mk hr0
    have HC0 := Aside0.mk hc0
    clear hme
    by_cases hpos : ok = true ∧ num > 0
    ·rw [if_pos hpos] at h2
     obtain ⟨rfl, rfl⟩ := Prod.mk.inj (Option.some.inj h2)
     obtain ⟨rfl, hnum⟩ := hpos
     have hnb : decide (num > 0) = true := decide_eq_true hnum
     clear h2 hr0 hc0
     go_enter Try.func38, Try.ntmps38
     go_wp2_with (first | (go_at_call 31; refine HC.out.mono ?_; rintro e w' ⟨rfl, hd⟩; obtain ⟨nq, rfl⟩ := hd) | (go_at_call 23; refine (HME.out _ (Kd.C_drewN HR.out _)).mono ?_; rintro e w2 ⟨rfl, hd2⟩))
     go_ret2
     exact ⟨_, rfl, Kd.S_nil _ _ _ _ _, below_step (pw_below_drewN (Below.refl _ _) _) hd2⟩
    ·rw [if_neg hpos] at h2
     cases hm : railplanref30_unit.f k (l0.length : Int) with
     | none => rw [hm] at h2; exact absurd h2 (by simp)
     | some m =>
      rw [hm] at h2
      obtain ⟨hs0, hs1, hst⟩ := rstarTail_inv (show rstarTail k l0 m = some (r1, r2) from h2)
      obtain ⟨hn1, hn2, hq0⟩ := sqB_P hs0
      obtain ⟨_, _, hq1⟩ := sqB_P hs1
      have HM := Aside0.mk (fun W => railplanref30_unit.calls k (l0.length : Int) m W hm)
      have HPW := Aside0.mk (fun W h1 (i : Nat) p e hp => railplanref30_Power.calls k A0 c0 l0 (i : Int) p e W h1 hc0 hp)
      have HQ0 := Aside0.mk hq0
      have HQ1 := Aside0.mk hq1
      have HST := Aside0.mk hst
      have HPOS : Aside0 ((ok && decide (num > 0)) = false) := ⟨by
       cases hok : ok with
       | false => rfl
       | true => simp only [Bool.true_and]; exact decide_eq_false (fun hg => hpos ⟨hok, hg⟩)⟩
      clear h2 hm hs0 hs1 hst hq0 hq1 hc0 hr0 hpos
      obtain ⟨B0, hB0⟩ : ∃ B0, B0 = w.heap.size := ⟨_, rfl⟩
      have HBZ := Aside0.mk hB0
      clear hB0
      suffices hrest : ∀ ok' num', (ok' && decide (num' > 0)) = false → ok' = ok → num' = num → Calls Try.prog 38 #[.slice A0 l0.length c0] w (fun e w' => ∃ v0_ : Value, e = .returned (.tuple #[v0_, .int .i64 r2]) ∧ Kd.S (Kd.slice 3 (Kd.int .i64)) 22 w' w.heap.size (fun _ => True) v0_ r1 ∧ Below w.heap.size w w') from hrest ok num HPOS.out rfl rfl
      intro ok' num' hpo e1 e2
      subst e1 e2
      clear HPOS
      go_enter Try.func38, Try.ntmps38
      cases ok'
      all_goals (try have hnb : decide (num' > 0) = false := by simpa using hpo)
      all_goals
       clear hpo
       go_wp2_with (first | (go_at_call 31; refine HC.out.mono ?_; rintro e w' ⟨rfl, hd⟩; obtain ⟨nq, rfl⟩ := hd) | (go_at_call 23; refine (HME.out _ (Kd.C_drewN HR.out _)).mono ?_; rintro e w1 ⟨rfl, hd2⟩; have HB1 := Aside0.mk (below_step (pw_below_drewN (Below.refl _ _) _) hd2); clear hd2) | (go_at_call 51; refine (HM.out _).mono ?_; rintro e w2 ⟨v0, rfl, hs2, hd2⟩; obtain ⟨R, cR, ev, -⟩ := Kd.S_form hs2 (by rw [HQ1.out.1]; omega); rw [HQ1.out.1] at ev; subst ev; have HS2 := Aside0.mk hs2; have HB2 := Aside0.mk hd2; clear hs2 hd2))
       go_loopg [8] (l0.length - 1) (fun kq v w' => ∃ (i : Nat) (b : List (List Int)), v = .int .i64 (i : Int) ∧ Aside0 (i + kq = l0.length) ∧ Aside0 (SqP l0.length b) ∧ Aside0 (rstarLoop k l0 l0.length kq i b = some (r1, r2)) ∧ Aside0 (Kd.S (Kd.slice 3 (Kd.int .i64)) 22 w' w.heap.size (fun _ => True) (.slice (some ⟨R, 0, none⟩) l0.length cR) b) ∧ Aside0 (Below w.heap.size w w'))
       case atStart => exact ⟨1, m, rfl, ⟨by omega⟩, HQ1, HST, ⟨Kd.S_lower HS2.out (below_size HB1.out)⟩, ⟨below_step HB1.out HB2.out⟩⟩
       case round =>
        clear HS2 HB2 HB1 HST
        obtain ⟨i, b, rfl, HK, HQB, HST, HS, HB⟩ := hrel
        by_cases hlt : i < l0.length
        ·cases gk with
         | zero => exact absurd HK.out (by omega)
         | succ gO =>
          obtain ⟨p, e, hpw, hcase⟩ := rstarLoop_inv HST.out
          have HCA := Aside0.mk (HPW.out wr (Kd.C_below HR.out HB.out) i p e hpw)
          have HB' := HB
          clear hpw HST
          rcases hcase with ⟨he, hsq, hnx⟩ | ⟨he, hr⟩
          ·subst he
           obtain ⟨_, _, hqp⟩ := sqB_P hsq
           have HQP := Aside0.mk hqp
           have HNX := Aside0.mk hnx
           clear hsq hqp hnx
           go_wp2_with (go_at_call 29; refine HCA.out.mono ?_; rintro e w3 ⟨v3, rfl, hs3, hd3⟩; obtain ⟨Pp, cP, ev, -⟩ := Kd.S_form hs3 (by rw [HQP.out.1]; omega); rw [HQP.out.1] at ev; subst ev; have HSP := Aside0.mk hs3; have HBW := Aside0.mk hd3; clear hs3 hd3)
           have HBR := Aside0.mk (below_size HB.out)
           have HSB := Aside0.mk (Kd.S_old HS.out HBW.out)
           have HB3 := Aside0.mk (below_step HB.out HBW.out)
           generalize hws : wr.heap.size = ws at *
           clear HS HB HBW HCA hws HB'
           go_loopg [47] l0.length (fun kq v w' => ∃ x : Nat, v = .int .i64 (x : Int) ∧ Aside0 (x + kq = l0.length) ∧ Aside0 (Kd.S (Kd.slice 3 (Kd.int .i64)) 22 w' w.heap.size (fun k => True ∧ k < ws) (.slice (some ⟨R, 0, none⟩) l0.length cR) (maxOut p l0.length x b)) ∧ Aside0 (Kd.S (Kd.slice 3 (Kd.int .i64)) 22 w' ws (fun _ => True) (.slice (some ⟨Pp, 0, none⟩) l0.length cP) p) ∧ Aside0 (Below w.heap.size w w'))
           case atStart => exact ⟨0, rfl, ⟨by omega⟩, HSB, HSP, HB3⟩
           case round =>
            clear HSB HSP HB3
            obtain ⟨x, rfl, HK2, HSB, HSP, HB⟩ := hrel
            by_cases hltx : x < l0.length
            ·cases gk with
             | zero => exact absurd HK2.out (by omega)
             | succ gI =>
              go_wp2_with fail
              go_loopg [52] l0.length (fun kq v w' => ∃ y : Nat, v = .int .i64 (y : Int) ∧ Aside0 (y + kq = l0.length) ∧ Aside0 (Kd.S (Kd.slice 3 (Kd.int .i64)) 22 w' w.heap.size (fun k => True ∧ k < ws) (.slice (some ⟨R, 0, none⟩) l0.length cR) (maxIn p x y (maxOut p l0.length x b))) ∧ Aside0 (Kd.S (Kd.slice 3 (Kd.int .i64)) 22 w' ws (fun _ => True) (.slice (some ⟨Pp, 0, none⟩) l0.length cP) p) ∧ Aside0 (Below w.heap.size w w'))
              case atStart => exact ⟨0, rfl, ⟨by omega⟩, HSB, HSP, HB⟩
              case round =>
               clear HSB HSP HB
               obtain ⟨y, rfl, HK3, HSB, HSP, HB⟩ := hrel
               by_cases hlty : y < l0.length
               ·cases gk with
                | zero => exact absurd HK3.out (by omega)
                | succ gJ =>
                 obtain ⟨A2, cc2, hrow, hcc2, hC2⟩ := mat_row (Kd.S_reads' HSP.out).2.2 x (by rw [HQP.out.1]; exact hltx)
                 rw [HQP.out.2 x hltx, add_plain] at hrow
                 rw [HQP.out.2 x hltx] at hC2
                 obtain ⟨ad1, rfl⟩ := C_some hC2 (by omega)
                 have hy := mat_at hC2 y hlty
                 generalize hxv : rd (rdL p (x : Int)) (y : Int) = pv at *
                 have HX := Aside0.mk hxv
                 clear hxv hC2 hcc2
                 have hmq := maxIn_sq (p := p) (maxOut_sq (p := p) HQB.out x (by omega)) hltx y
                 obtain ⟨hb, hc, p1, p2, p3, p4, p5, p6, p7⟩ := mat_putN HSB.out x y hltx (by rw [hmq.2 x hltx]; exact hlty)
                 rw [hmq.2 x hltx] at p1
                 generalize hov : rd (rdL (maxIn p x y (maxOut p l0.length x b)) (x : Int)) (y : Int) = ov at *
                 have HO := Aside0.mk hov
                 have P4 := Aside0.mk p4
                 have P6 := Aside0.mk p6
                 have P7 := Aside0.mk p7
                 clear p4 p6 p7 hmq hov
                 go_wp2_with fail
                 refine still_tail 21 (by kernel_rfl) (by kernel_rfl) (fun wd hwd => ?_)
                 simp only [List.take_succ_cons, List.take_zero, List.drop_succ_cons, List.drop_zero]
                 have q1 : wd.cell? ⟨R, x, none⟩ = some (.slice (some ⟨hb, 0, none⟩) l0.length hc) := by rw [hwd]; exact p1
                 have q2 : wd.cell? ⟨hb, y, none⟩ = some (.int .i64 ov) := by rw [hwd]; exact p2
                 have q3 : wd.frozen? ⟨hb, y, none⟩ = false := by rw [hwd]; exact p3
                 have q4 : wd.cell? ⟨Pp, x, none⟩ = some (.slice (some ad1) l0.length cc2) := by rw [hwd]; exact hrow
                 have q5 : wd.cell? (ad1.add y) = some (.int .i64 pv) := by rw [hwd]; exact hy
                 have Q7 : Aside0 (∀ z, Kd.S (Kd.slice 3 (Kd.int .i64)) 22 (wd.setCell ⟨hb, y, none⟩ (.int .i64 z)) w.heap.size (fun k => True ∧ k < ws) (.slice (some ⟨R, 0, none⟩) l0.length cR) ((maxIn p x y (maxOut p l0.length x b)).set x ((rdL (maxIn p x y (maxOut p l0.length x b)) (x : Int)).set y z))) := ⟨fun z => by rw [hwd]; exact mat_drew (P7.out z)⟩
                 have QP : Aside0 (∀ z, Kd.S (Kd.slice 3 (Kd.int .i64)) 22 (wd.setCell ⟨hb, y, none⟩ (.int .i64 z)) ws (fun _ => True) (.slice (some ⟨Pp, 0, none⟩) l0.length cP) p) := ⟨fun z => by rw [hwd]; exact mat_below (Kd.S_drew HSP.out) P6.out z⟩
                 have QB : Aside0 (∀ z, Below w.heap.size w (wd.setCell ⟨hb, y, none⟩ (.int .i64 z))) := ⟨fun z => by rw [hwd]; exact below_set (below_drew1 HB.out) P4.out⟩
                 clear hwd p1 p2 p3 p5 P7 P6 P4 HSB HSP HB hrow hy
                 repeat still_step
                 refine wpStill_nil ?_
                 go_wp2_with fail
                 ·go_roundg gJ
                  case measure => omega
                  case rel => exact ⟨y + 1, by go_num, ⟨by have := HK3.out; omega⟩, ⟨by unfold maxIn maxStep; rw [HX.out, HO.out, mx_gt (by omega)]; exact Q7.out _⟩, ⟨QP.out _⟩, ⟨QB.out _⟩⟩
                 ·go_roundg gJ
                  case measure => omega
                  case rel => exact ⟨y + 1, by go_num, ⟨by have := HK3.out; omega⟩, ⟨by unfold maxIn maxStep; rw [HX.out, HO.out, mx_le (by omega)]; exact Q7.out _⟩, ⟨QP.out _⟩, ⟨QB.out _⟩⟩
               ·have hj : y = l0.length := by have := HK3.out; omega
                have HJ := Aside0.mk hj
                clear hj
                go_wp2_with fail
                go_roundg gI
                case measure => omega
                case rel => exact ⟨x + 1, by go_num, ⟨by have := HK2.out; omega⟩, ⟨by unfold maxOut; have h := HSB.out; rw [HJ.out] at h; exact h⟩, HSP, HB⟩
            ·have hj : x = l0.length := by have := HK2.out; omega
             have HJ := Aside0.mk hj
             clear hj
             go_wp2_with fail
             go_roundg gO
             case measure => have := HK.out; omega
             case rel => exact ⟨i + 1, maxOut p l0.length l0.length b, by go_num, ⟨by have := HK.out; omega⟩, ⟨maxOut_sq HQB.out _ (Nat.le_refl _)⟩, HNX, ⟨by have h := HSB.out; rw [HJ.out] at h; exact Kd.S_mono h (fun _ _ => trivial)⟩, HB⟩
          ·obtain ⟨rfl, rfl⟩ := Prod.mk.inj hr
           have heb : (r2 == 0) = false := beq_eq_false_iff_ne.2 he
           clear hr
           go_wp2_with (go_at_call 29; refine HCA.out.mono ?_; rintro e w3 ⟨v3, rfl, hs3, hd3⟩)
           go_ret2
           exact ⟨_, rfl, Kd.S_nil _ _ _ _ _, below_step HB.out hd3⟩
        ·have hg : gk = 0 := by have := HK.out; omega
         subst hg
         obtain ⟨rfl, rfl⟩ := Prod.mk.inj (Option.some.inj HST.out)
         go_wp2_with fail
         go_ret2
         exact ⟨_, rfl, HS.out, HB.out⟩

/-! ### railplanlaw33_MaxplusMade: function 12 -/
def railplanlaw33_MaxplusMade.f (k : Nat) (a0 : Int) (l1 : List Int) (a2 : Int) : Option (Bool) := (railplankeep_Pick.f a0 4).bind fun t315 => ((railplankeep2_Matrix.f k (wrap64 (1 + t315)) l1).bind fun t316 => ((maxplus_Mean.f k t316).bind fun bt319 => ((railplanref30_Mean.f k t316).bind fun bt322 => ((maxplus_Star.f k t316).bind fun bt325 => ((railplanref30_Star.f k t316).bind fun bt329 => ((railplankeep_Pick.f a2 12).bind fun t333 => ((maxplus_Power.f k t316 t333).bind fun bt334 => ((railplankeep_Pick.f a2 12).bind fun t338 => ((railplanref30_Power.f k t316 t338).bind fun bt339 => ((railplanlaw33_awake.f k).bind fun t343 => (if t343 = true then (if bt319.1 = bt322.1 then (if bt319.2.1 = bt322.2.1 then (if (bt319.2.2 == bt322.2.2) = true then ((maxplus_Critical.f k t316).bind fun t344 => ((railplanref30_Critical.f k t316).bind fun t347 => ((railplankeep_Same_int.f k t344 t347).bind fun t350 => (if t350 = true then ((railplankeep_SameLists_int.f k bt325.1 bt329.1).bind fun t351 => (if t351 = true then (if bt325.2 = bt329.2 then ((railplankeep_SameLists_int.f k bt334.1 bt339.1).bind fun t352 => (if t352 = true then (some (bt334.2 == bt339.2)) else (some false))) else (some false)) else (some false))) else (some false))))) else (some false)) else (some false)) else (some false)) else (some false))))))))))))
theorem railplanlaw33_MaxplusMade.mono : ∀ a0 a1 a2 k, LeO (railplanlaw33_MaxplusMade.f k a0 a1 a2) (railplanlaw33_MaxplusMade.f (k + 1) a0 a1 a2) := by
 intro a0 a1 a2 k
 unfold railplanlaw33_MaxplusMade.f
 repeat' first
   | (with_reducible exact maxplus_Critical.mono _ _)
   | (with_reducible exact maxplus_Mean.mono _ _)
   | (with_reducible exact maxplus_Power.mono _ _ _)
   | (with_reducible exact maxplus_Star.mono _ _)
   | (with_reducible exact railplankeep2_Matrix.mono _ _ _)
   | (with_reducible exact railplankeep_SameLists_int.mono _ _ _)
   | (with_reducible exact railplankeep_Same_int.mono _ _ _)
   | (with_reducible exact railplanlaw33_awake.mono _)
   | (with_reducible exact railplanref30_Critical.mono _ _)
   | (with_reducible exact railplanref30_Mean.mono _ _)
   | (with_reducible exact railplanref30_Power.mono _ _ _)
   | (with_reducible exact railplanref30_Star.mono _ _)
   | (with_reducible exact LeO.refl _)
   | (with_reducible exact LeO.none _)
   | (with_reducible refine LeO.ite ?_ ?_)
   | (with_reducible refine LeO.bind ?_ (fun _ => ?_))
   | exact maxplus_Critical.mono _ _
   | exact maxplus_Mean.mono _ _
   | exact maxplus_Power.mono _ _ _
   | exact maxplus_Star.mono _ _
   | exact railplankeep2_Matrix.mono _ _ _
   | exact railplankeep_SameLists_int.mono _ _ _
   | exact railplankeep_Same_int.mono _ _ _
   | exact railplanlaw33_awake.mono _
   | exact railplanref30_Critical.mono _ _
   | exact railplanref30_Mean.mono _ _
   | exact railplanref30_Power.mono _ _ _
   | exact railplanref30_Star.mono _ _
   | exact LeO.none _
   | refine LeO.ite ?_ ?_
   | refine LeO.bind ?_ (fun _ => ?_)
set_option maxHeartbeats 8000000 in
set_option maxRecDepth 100000 in
theorem railplanlaw33_MaxplusMade.calls (k : Nat) (a0 : Int) (A1 : Option Addr) (c1 : Nat) (l1 : List Int) (a2 : Int) (r : Bool) (w : World) (hr1 : Kd.C (Kd.int .i64) w A1 l1.length l1) (hc1 : l1.length ≤ c1) (h : railplanlaw33_MaxplusMade.f k a0 l1 a2 = some r) (hT : Aside0 (r = true)) :
  Calls Try.prog 12 #[.int .i64 a0, .slice A1 l1.length c1, .int .i64 a2] w fun e w' => e = .returned (.bool r) ∧ Below w.heap.size w w' := by
 have HR1 := Aside0.mk hr1
 have HC1 := Aside0.mk hc1
 clear hr1 hc1
 have HB := Aside0.mk (Below.refl w.heap.size w)
 have H : ((railplankeep_Pick.f a0 4).bind fun t315 => ((railplankeep2_Matrix.f k (wrap64 (1 + t315)) l1).bind fun t316 => ((maxplus_Mean.f k t316).bind fun bt319 => ((railplanref30_Mean.f k t316).bind fun bt322 => ((maxplus_Star.f k t316).bind fun bt325 => ((railplanref30_Star.f k t316).bind fun bt329 => ((railplankeep_Pick.f a2 12).bind fun t333 => ((maxplus_Power.f k t316 t333).bind fun bt334 => ((railplankeep_Pick.f a2 12).bind fun t338 => ((railplanref30_Power.f k t316 t338).bind fun bt339 => ((railplanlaw33_awake.f k).bind fun t343 => (if t343 = true then (if bt319.1 = bt322.1 then (if bt319.2.1 = bt322.2.1 then (if (bt319.2.2 == bt322.2.2) = true then ((maxplus_Critical.f k t316).bind fun t344 => ((railplanref30_Critical.f k t316).bind fun t347 => ((railplankeep_Same_int.f k t344 t347).bind fun t350 => (if t350 = true then ((railplankeep_SameLists_int.f k bt325.1 bt329.1).bind fun t351 => (if t351 = true then (if bt325.2 = bt329.2 then ((railplankeep_SameLists_int.f k bt334.1 bt339.1).bind fun t352 => (if t352 = true then (some (bt334.2 == bt339.2)) else (some false))) else (some false)) else (some false))) else (some false))))) else (some false)) else (some false)) else (some false)) else (some false))))))))))))) = some r := h
 clear h
 replace H := Option.bind_eq_some_iff.mp H
 obtain ⟨t315, A40, H⟩ := H
 replace H : ((railplankeep2_Matrix.f k (wrap64 (1 + t315)) l1).bind fun t316 => ((maxplus_Mean.f k t316).bind fun bt319 => ((railplanref30_Mean.f k t316).bind fun bt322 => ((maxplus_Star.f k t316).bind fun bt325 => ((railplanref30_Star.f k t316).bind fun bt329 => ((railplankeep_Pick.f a2 12).bind fun t333 => ((maxplus_Power.f k t316 t333).bind fun bt334 => ((railplankeep_Pick.f a2 12).bind fun t338 => ((railplanref30_Power.f k t316 t338).bind fun bt339 => ((railplanlaw33_awake.f k).bind fun t343 => (if t343 = true then (if bt319.1 = bt322.1 then (if bt319.2.1 = bt322.2.1 then (if (bt319.2.2 == bt322.2.2) = true then ((maxplus_Critical.f k t316).bind fun t344 => ((railplanref30_Critical.f k t316).bind fun t347 => ((railplankeep_Same_int.f k t344 t347).bind fun t350 => (if t350 = true then ((railplankeep_SameLists_int.f k bt325.1 bt329.1).bind fun t351 => (if t351 = true then (if bt325.2 = bt329.2 then ((railplankeep_SameLists_int.f k bt334.1 bt339.1).bind fun t352 => (if t352 = true then (some (bt334.2 == bt339.2)) else (some false))) else (some false)) else (some false))) else (some false))))) else (some false)) else (some false)) else (some false)) else (some false)))))))))))) = some r := H
 have A4 := Aside0.mk A40
 clear A40
 replace H := Option.bind_eq_some_iff.mp H
 obtain ⟨t316, A50, H⟩ := H
 replace H : ((maxplus_Mean.f k t316).bind fun bt319 => ((railplanref30_Mean.f k t316).bind fun bt322 => ((maxplus_Star.f k t316).bind fun bt325 => ((railplanref30_Star.f k t316).bind fun bt329 => ((railplankeep_Pick.f a2 12).bind fun t333 => ((maxplus_Power.f k t316 t333).bind fun bt334 => ((railplankeep_Pick.f a2 12).bind fun t338 => ((railplanref30_Power.f k t316 t338).bind fun bt339 => ((railplanlaw33_awake.f k).bind fun t343 => (if t343 = true then (if bt319.1 = bt322.1 then (if bt319.2.1 = bt322.2.1 then (if (bt319.2.2 == bt322.2.2) = true then ((maxplus_Critical.f k t316).bind fun t344 => ((railplanref30_Critical.f k t316).bind fun t347 => ((railplankeep_Same_int.f k t344 t347).bind fun t350 => (if t350 = true then ((railplankeep_SameLists_int.f k bt325.1 bt329.1).bind fun t351 => (if t351 = true then (if bt325.2 = bt329.2 then ((railplankeep_SameLists_int.f k bt334.1 bt339.1).bind fun t352 => (if t352 = true then (some (bt334.2 == bt339.2)) else (some false))) else (some false)) else (some false))) else (some false))))) else (some false)) else (some false)) else (some false)) else (some false))))))))))) = some r := H
 have A5 := Aside0.mk A50
 clear A50
 replace H := Option.bind_eq_some_iff.mp H
 obtain ⟨⟨t319, t320, t321⟩, A60, H⟩ := H
 replace H : ((railplanref30_Mean.f k t316).bind fun bt322 => ((maxplus_Star.f k t316).bind fun bt325 => ((railplanref30_Star.f k t316).bind fun bt329 => ((railplankeep_Pick.f a2 12).bind fun t333 => ((maxplus_Power.f k t316 t333).bind fun bt334 => ((railplankeep_Pick.f a2 12).bind fun t338 => ((railplanref30_Power.f k t316 t338).bind fun bt339 => ((railplanlaw33_awake.f k).bind fun t343 => (if t343 = true then (if t319 = bt322.1 then (if t320 = bt322.2.1 then (if (t321 == bt322.2.2) = true then ((maxplus_Critical.f k t316).bind fun t344 => ((railplanref30_Critical.f k t316).bind fun t347 => ((railplankeep_Same_int.f k t344 t347).bind fun t350 => (if t350 = true then ((railplankeep_SameLists_int.f k bt325.1 bt329.1).bind fun t351 => (if t351 = true then (if bt325.2 = bt329.2 then ((railplankeep_SameLists_int.f k bt334.1 bt339.1).bind fun t352 => (if t352 = true then (some (bt334.2 == bt339.2)) else (some false))) else (some false)) else (some false))) else (some false))))) else (some false)) else (some false)) else (some false)) else (some false)))))))))) = some r := H
 have A6 := Aside0.mk A60
 clear A60
 replace H := Option.bind_eq_some_iff.mp H
 obtain ⟨⟨t322, t323, t324⟩, A70, H⟩ := H
 replace H : ((maxplus_Star.f k t316).bind fun bt325 => ((railplanref30_Star.f k t316).bind fun bt329 => ((railplankeep_Pick.f a2 12).bind fun t333 => ((maxplus_Power.f k t316 t333).bind fun bt334 => ((railplankeep_Pick.f a2 12).bind fun t338 => ((railplanref30_Power.f k t316 t338).bind fun bt339 => ((railplanlaw33_awake.f k).bind fun t343 => (if t343 = true then (if t319 = t322 then (if t320 = t323 then (if (t321 == t324) = true then ((maxplus_Critical.f k t316).bind fun t344 => ((railplanref30_Critical.f k t316).bind fun t347 => ((railplankeep_Same_int.f k t344 t347).bind fun t350 => (if t350 = true then ((railplankeep_SameLists_int.f k bt325.1 bt329.1).bind fun t351 => (if t351 = true then (if bt325.2 = bt329.2 then ((railplankeep_SameLists_int.f k bt334.1 bt339.1).bind fun t352 => (if t352 = true then (some (bt334.2 == bt339.2)) else (some false))) else (some false)) else (some false))) else (some false))))) else (some false)) else (some false)) else (some false)) else (some false))))))))) = some r := H
 have A7 := Aside0.mk A70
 clear A70
 replace H := Option.bind_eq_some_iff.mp H
 obtain ⟨⟨t325, t326⟩, A80, H⟩ := H
 replace H : ((railplanref30_Star.f k t316).bind fun bt329 => ((railplankeep_Pick.f a2 12).bind fun t333 => ((maxplus_Power.f k t316 t333).bind fun bt334 => ((railplankeep_Pick.f a2 12).bind fun t338 => ((railplanref30_Power.f k t316 t338).bind fun bt339 => ((railplanlaw33_awake.f k).bind fun t343 => (if t343 = true then (if t319 = t322 then (if t320 = t323 then (if (t321 == t324) = true then ((maxplus_Critical.f k t316).bind fun t344 => ((railplanref30_Critical.f k t316).bind fun t347 => ((railplankeep_Same_int.f k t344 t347).bind fun t350 => (if t350 = true then ((railplankeep_SameLists_int.f k t325 bt329.1).bind fun t351 => (if t351 = true then (if t326 = bt329.2 then ((railplankeep_SameLists_int.f k bt334.1 bt339.1).bind fun t352 => (if t352 = true then (some (bt334.2 == bt339.2)) else (some false))) else (some false)) else (some false))) else (some false))))) else (some false)) else (some false)) else (some false)) else (some false)))))))) = some r := H
 have A8 := Aside0.mk A80
 clear A80
 replace H := Option.bind_eq_some_iff.mp H
 obtain ⟨⟨t329, t330⟩, A90, H⟩ := H
 replace H : ((railplankeep_Pick.f a2 12).bind fun t333 => ((maxplus_Power.f k t316 t333).bind fun bt334 => ((railplankeep_Pick.f a2 12).bind fun t338 => ((railplanref30_Power.f k t316 t338).bind fun bt339 => ((railplanlaw33_awake.f k).bind fun t343 => (if t343 = true then (if t319 = t322 then (if t320 = t323 then (if (t321 == t324) = true then ((maxplus_Critical.f k t316).bind fun t344 => ((railplanref30_Critical.f k t316).bind fun t347 => ((railplankeep_Same_int.f k t344 t347).bind fun t350 => (if t350 = true then ((railplankeep_SameLists_int.f k t325 t329).bind fun t351 => (if t351 = true then (if t326 = t330 then ((railplankeep_SameLists_int.f k bt334.1 bt339.1).bind fun t352 => (if t352 = true then (some (bt334.2 == bt339.2)) else (some false))) else (some false)) else (some false))) else (some false))))) else (some false)) else (some false)) else (some false)) else (some false))))))) = some r := H
 have A9 := Aside0.mk A90
 clear A90
 replace H := Option.bind_eq_some_iff.mp H
 obtain ⟨t333, A100, H⟩ := H
 replace H : ((maxplus_Power.f k t316 t333).bind fun bt334 => ((railplankeep_Pick.f a2 12).bind fun t338 => ((railplanref30_Power.f k t316 t338).bind fun bt339 => ((railplanlaw33_awake.f k).bind fun t343 => (if t343 = true then (if t319 = t322 then (if t320 = t323 then (if (t321 == t324) = true then ((maxplus_Critical.f k t316).bind fun t344 => ((railplanref30_Critical.f k t316).bind fun t347 => ((railplankeep_Same_int.f k t344 t347).bind fun t350 => (if t350 = true then ((railplankeep_SameLists_int.f k t325 t329).bind fun t351 => (if t351 = true then (if t326 = t330 then ((railplankeep_SameLists_int.f k bt334.1 bt339.1).bind fun t352 => (if t352 = true then (some (bt334.2 == bt339.2)) else (some false))) else (some false)) else (some false))) else (some false))))) else (some false)) else (some false)) else (some false)) else (some false)))))) = some r := H
 have A10 := Aside0.mk A100
 clear A100
 replace H := Option.bind_eq_some_iff.mp H
 obtain ⟨⟨t334, t335⟩, A110, H⟩ := H
 replace H : ((railplankeep_Pick.f a2 12).bind fun t338 => ((railplanref30_Power.f k t316 t338).bind fun bt339 => ((railplanlaw33_awake.f k).bind fun t343 => (if t343 = true then (if t319 = t322 then (if t320 = t323 then (if (t321 == t324) = true then ((maxplus_Critical.f k t316).bind fun t344 => ((railplanref30_Critical.f k t316).bind fun t347 => ((railplankeep_Same_int.f k t344 t347).bind fun t350 => (if t350 = true then ((railplankeep_SameLists_int.f k t325 t329).bind fun t351 => (if t351 = true then (if t326 = t330 then ((railplankeep_SameLists_int.f k t334 bt339.1).bind fun t352 => (if t352 = true then (some (t335 == bt339.2)) else (some false))) else (some false)) else (some false))) else (some false))))) else (some false)) else (some false)) else (some false)) else (some false))))) = some r := H
 have A11 := Aside0.mk A110
 clear A110
 replace H := Option.bind_eq_some_iff.mp H
 obtain ⟨t338, A120, H⟩ := H
 replace H : ((railplanref30_Power.f k t316 t338).bind fun bt339 => ((railplanlaw33_awake.f k).bind fun t343 => (if t343 = true then (if t319 = t322 then (if t320 = t323 then (if (t321 == t324) = true then ((maxplus_Critical.f k t316).bind fun t344 => ((railplanref30_Critical.f k t316).bind fun t347 => ((railplankeep_Same_int.f k t344 t347).bind fun t350 => (if t350 = true then ((railplankeep_SameLists_int.f k t325 t329).bind fun t351 => (if t351 = true then (if t326 = t330 then ((railplankeep_SameLists_int.f k t334 bt339.1).bind fun t352 => (if t352 = true then (some (t335 == bt339.2)) else (some false))) else (some false)) else (some false))) else (some false))))) else (some false)) else (some false)) else (some false)) else (some false)))) = some r := H
 have A12 := Aside0.mk A120
 clear A120
 replace H := Option.bind_eq_some_iff.mp H
 obtain ⟨⟨t339, t340⟩, A130, H⟩ := H
 replace H : ((railplanlaw33_awake.f k).bind fun t343 => (if t343 = true then (if t319 = t322 then (if t320 = t323 then (if (t321 == t324) = true then ((maxplus_Critical.f k t316).bind fun t344 => ((railplanref30_Critical.f k t316).bind fun t347 => ((railplankeep_Same_int.f k t344 t347).bind fun t350 => (if t350 = true then ((railplankeep_SameLists_int.f k t325 t329).bind fun t351 => (if t351 = true then (if t326 = t330 then ((railplankeep_SameLists_int.f k t334 t339).bind fun t352 => (if t352 = true then (some (t335 == t340)) else (some false))) else (some false)) else (some false))) else (some false))))) else (some false)) else (some false)) else (some false)) else (some false))) = some r := H
 have A13 := Aside0.mk A130
 clear A130
 replace H := Option.bind_eq_some_iff.mp H
 obtain ⟨t343, A140, H⟩ := H
 replace H : (if t343 = true then (if t319 = t322 then (if t320 = t323 then (if (t321 == t324) = true then ((maxplus_Critical.f k t316).bind fun t344 => ((railplanref30_Critical.f k t316).bind fun t347 => ((railplankeep_Same_int.f k t344 t347).bind fun t350 => (if t350 = true then ((railplankeep_SameLists_int.f k t325 t329).bind fun t351 => (if t351 = true then (if t326 = t330 then ((railplankeep_SameLists_int.f k t334 t339).bind fun t352 => (if t352 = true then (some (t335 == t340)) else (some false))) else (some false)) else (some false))) else (some false))))) else (some false)) else (some false)) else (some false)) else (some false)) = some r := H
 have A14 := Aside0.mk A140
 clear A140
 by_cases c15 : t343 = true
 ·subst c15
  have H1 : (if t319 = t322 then (if t320 = t323 then (if (t321 == t324) = true then ((maxplus_Critical.f k t316).bind fun t344 => ((railplanref30_Critical.f k t316).bind fun t347 => ((railplankeep_Same_int.f k t344 t347).bind fun t350 => (if t350 = true then ((railplankeep_SameLists_int.f k t325 t329).bind fun t351 => (if t351 = true then (if t326 = t330 then ((railplankeep_SameLists_int.f k t334 t339).bind fun t352 => (if t352 = true then (some (t335 == t340)) else (some false))) else (some false)) else (some false))) else (some false))))) else (some false)) else (some false)) else (some false)) = some r := by rw [if_pos rfl] at H; exact H
  clear H
  have H := H1
  clear H1
  by_cases c16 : t319 = t322
  ·rw [if_pos c16] at H
   have c16b0 : (t319 == t322) = true := beq_iff_eq.mpr c16
   have c16b1 : (t319 != t322) = false := bne_eq_false_iff_eq.mpr c16
   clear c16
   by_cases c17 : t320 = t323
   ·rw [if_pos c17] at H
    have c17b0 : (t320 == t323) = true := beq_iff_eq.mpr c17
    have c17b1 : (t320 != t323) = false := bne_eq_false_iff_eq.mpr c17
    clear c17
    by_cases c18 : (t321 == t324) = true
    ·rw [if_pos c18] at H
     have c18b0 : (t321 == t324) = true := c18
     (try (have c18b1 : decide (t321 = t324) = true := by simpa using c18))
     (try (have c18b2 : (t321 == t324) = true := by simpa using c18))
     clear c18
     replace H := Option.bind_eq_some_iff.mp H
     obtain ⟨t344, A190, H⟩ := H
     replace H : ((railplanref30_Critical.f k t316).bind fun t347 => ((railplankeep_Same_int.f k t344 t347).bind fun t350 => (if t350 = true then ((railplankeep_SameLists_int.f k t325 t329).bind fun t351 => (if t351 = true then (if t326 = t330 then ((railplankeep_SameLists_int.f k t334 t339).bind fun t352 => (if t352 = true then (some (t335 == t340)) else (some false))) else (some false)) else (some false))) else (some false)))) = some r := H
     have A19 := Aside0.mk A190
     clear A190
     replace H := Option.bind_eq_some_iff.mp H
     obtain ⟨t347, A200, H⟩ := H
     replace H : ((railplankeep_Same_int.f k t344 t347).bind fun t350 => (if t350 = true then ((railplankeep_SameLists_int.f k t325 t329).bind fun t351 => (if t351 = true then (if t326 = t330 then ((railplankeep_SameLists_int.f k t334 t339).bind fun t352 => (if t352 = true then (some (t335 == t340)) else (some false))) else (some false)) else (some false))) else (some false))) = some r := H
     have A20 := Aside0.mk A200
     clear A200
     replace H := Option.bind_eq_some_iff.mp H
     obtain ⟨t350, A210, H⟩ := H
     replace H : (if t350 = true then ((railplankeep_SameLists_int.f k t325 t329).bind fun t351 => (if t351 = true then (if t326 = t330 then ((railplankeep_SameLists_int.f k t334 t339).bind fun t352 => (if t352 = true then (some (t335 == t340)) else (some false))) else (some false)) else (some false))) else (some false)) = some r := H
     have A21 := Aside0.mk A210
     clear A210
     by_cases c22 : t350 = true
     ·subst c22
      have H1 : ((railplankeep_SameLists_int.f k t325 t329).bind fun t351 => (if t351 = true then (if t326 = t330 then ((railplankeep_SameLists_int.f k t334 t339).bind fun t352 => (if t352 = true then (some (t335 == t340)) else (some false))) else (some false)) else (some false))) = some r := by rw [if_pos rfl] at H; exact H
      clear H
      have H := H1
      clear H1
      replace H := Option.bind_eq_some_iff.mp H
      obtain ⟨t351, A230, H⟩ := H
      replace H : (if t351 = true then (if t326 = t330 then ((railplankeep_SameLists_int.f k t334 t339).bind fun t352 => (if t352 = true then (some (t335 == t340)) else (some false))) else (some false)) else (some false)) = some r := H
      have A23 := Aside0.mk A230
      clear A230
      by_cases c24 : t351 = true
      ·subst c24
       have H1 : (if t326 = t330 then ((railplankeep_SameLists_int.f k t334 t339).bind fun t352 => (if t352 = true then (some (t335 == t340)) else (some false))) else (some false)) = some r := by rw [if_pos rfl] at H; exact H
       clear H
       have H := H1
       clear H1
       by_cases c25 : t326 = t330
       ·rw [if_pos c25] at H
        have c25b0 : (t326 == t330) = true := beq_iff_eq.mpr c25
        have c25b1 : (t326 != t330) = false := bne_eq_false_iff_eq.mpr c25
        clear c25
        replace H := Option.bind_eq_some_iff.mp H
        obtain ⟨t352, A260, H⟩ := H
        replace H : (if t352 = true then (some (t335 == t340)) else (some false)) = some r := H
        have A26 := Aside0.mk A260
        clear A260
        by_cases c27 : t352 = true
        ·subst c27
         have H1 : (some (t335 == t340)) = some r := by rw [if_pos rfl] at H; exact H
         clear H
         have H := H1
         clear H1
         obtain rfl := Option.some.inj H
         go_enter Try.func12, Try.ntmps12
         go_wp2_with (first | ((with_reducible refine gate_callee (f := 14) rfl ?_); refine goesL_ (some 23) rfl rfl Try.func14 (by kernel_rfl) rfl #[.int .i64 a0, .int .i64 4] rfl (by (try simp only [List.map_toArray, List.map_cons, List.map_nil]); first | done | rfl | (simp only [List.length_drop, List.length_take]; rfl)) ?_; (with_reducible refine (railplankeep_Pick.calls a0 4 t315 _ A4.out).mono ?_); rintro e w' ⟨rfl, ⟨nd, rfl⟩⟩; refine ⟨_, rfl, ?_⟩) | ((with_reducible refine gate_callee (f := 13) rfl ?_); refine goesL_ (some 26) rfl rfl Try.func13 (by kernel_rfl) rfl #[.int .i64 (wrap64 (1 + t315)), .slice A1 l1.length c1] rfl (by (try simp only [List.map_toArray, List.map_cons, List.map_nil]); first | done | rfl | (simp only [List.length_drop, List.length_take]; rfl)) ?_; (with_reducible refine (railplankeep2_Matrix.calls k (wrap64 (1 + t315)) _ _ l1 t316 _ ?side1 ?side2 A5.out).mono ?_); (case side1 => repeat (first | exact HR1.out | (with_reducible refine Kd.C_alloc ?_ _) | (with_reducible refine Kd.C_drewN ?_ _) | (with_reducible refine Kd.C_drew ?_))); (case side2 => exact HC1.out); rintro e w28 ⟨v317, rfl, ho0, hb⟩; refine ⟨_, rfl, ?_⟩; have n0_ := Aside0.mk (Kd.S_lower ho0 (below_size (by repeat (first | (with_reducible first | exact HB.out | apply below_alloc | apply pw_below_drewN | apply below_drew1) | exact HB.out)))); have n1_ := Aside0.mk (below_step (by repeat (first | (with_reducible first | exact HB.out | apply below_alloc | apply pw_below_drewN | apply below_drew1) | exact HB.out)) hb); clear HB; have HO318 := n0_; have HB := n1_; clear n0_ n1_; (try clear hb); (try clear hb2); (try clear hk); (try clear hi); (try clear ho0); obtain ⟨Ao29, co29, eo29⟩ := Kd.S_slice HO318.out; subst eo29) | ((with_reducible refine gate_callee (f := 20) rfl ?_); refine goesL_ (some 29) rfl rfl Try.func20 (by kernel_rfl) rfl #[.slice Ao29 t316.length co29] rfl (by (try simp only [List.map_toArray, List.map_cons, List.map_nil]); first | done | rfl | (simp only [List.length_drop, List.length_take]; rfl)) ?_; (with_reducible refine (maxplus_Mean.calls k _ _ t316 t319 t320 t321 _ ?side1 ?side2 A6.out).mono ?_); (case side1 => repeat (first | exact (Kd.S_reads' HO318.out).2.2 | (with_reducible refine Kd.C_alloc ?_ _) | (with_reducible refine Kd.C_drewN ?_ _) | (with_reducible refine Kd.C_drew ?_))); (case side2 => exact (Kd.S_reads' HO318.out).2.1); rintro e w30 ⟨rfl, hb⟩; refine ⟨_, rfl, ?_⟩; have n0_ := Aside0.mk (Kd.S_below (by (with_reducible repeat (first | apply Kd.S_alloc | apply Kd.S_drewN | apply Kd.S_drew)); exact HO318.out) hb); have n1_ := Aside0.mk (below_step (by repeat (first | (with_reducible first | exact HB.out | apply below_alloc | apply pw_below_drewN | apply below_drew1) | exact HB.out)) hb); clear HO318; clear HB; have HO318 := n0_; have HB := n1_; clear n0_ n1_; (try clear hb); (try clear hb2); (try clear hk); (try clear hi)) | ((with_reducible refine gate_callee (f := 23) rfl ?_); refine goesL_ (some 35) rfl rfl Try.func23 (by kernel_rfl) rfl #[.slice Ao29 t316.length co29] rfl (by (try simp only [List.map_toArray, List.map_cons, List.map_nil]); first | done | rfl | (simp only [List.length_drop, List.length_take]; rfl)) ?_; (with_reducible refine (railplanref30_Mean.calls k (fun k_ => True) _ _ t316 t322 t323 t324 _ ?side1 A7.out).mono ?_); (case side1 => exact Kd.S_V (HO318.out)); rintro e w31 ⟨rfl, hb⟩; refine ⟨_, rfl, ?_⟩; have n0_ := Aside0.mk (Kd.S_below (by (with_reducible repeat (first | apply Kd.S_alloc | apply Kd.S_drewN | apply Kd.S_drew)); exact HO318.out) hb); have n1_ := Aside0.mk (below_step (by repeat (first | (with_reducible first | exact HB.out | apply below_alloc | apply pw_below_drewN | apply below_drew1) | exact HB.out)) hb); clear HO318; clear HB; have HO318 := n0_; have HB := n1_; clear n0_ n1_; (try clear hb); (try clear hb2); (try clear hk); (try clear hi)) | ((with_reducible refine gate_callee (f := 35) rfl ?_); refine goesL_ (some 41) rfl rfl Try.func35 (by kernel_rfl) rfl #[.slice Ao29 t316.length co29] rfl (by (try simp only [List.map_toArray, List.map_cons, List.map_nil]); first | done | rfl | (simp only [List.length_drop, List.length_take]; rfl)) ?_; (with_reducible refine (maxplus_Star.calls k _ _ t316 t325 t326 _ ?side1 ?side2 A8.out).mono ?_); (case side1 => repeat (first | exact (Kd.S_reads' HO318.out).2.2 | (with_reducible refine Kd.C_alloc ?_ _) | (with_reducible refine Kd.C_drewN ?_ _) | (with_reducible refine Kd.C_drew ?_))); (case side2 => exact (Kd.S_reads' HO318.out).2.1); rintro e w32 ⟨v327, rfl, ho0, hb⟩; refine ⟨_, rfl, ?_⟩; have n0_ := Aside0.mk (Kd.S_elder' (by (with_reducible repeat (first | apply Kd.S_alloc | apply Kd.S_drewN | apply Kd.S_drew)); exact HO318.out) (by first | exact Kd.N_base ho0 | exact Kd.S_base ho0 | exact Kd.R_base ho0 | exact Kd.Q_base ho0) hb); have n1_ := Aside0.mk (Kd.S_lower (Kd.S_new' ho0 (Kd.S_lt (by (with_reducible repeat (first | apply Kd.S_alloc | apply Kd.S_drewN | apply Kd.S_drew)); exact HO318.out))) (below_size (by repeat (first | (with_reducible first | exact HB.out | apply below_alloc | apply pw_below_drewN | apply below_drew1) | exact HB.out)))); have n2_ := Aside0.mk (below_step (by repeat (first | (with_reducible first | exact HB.out | apply below_alloc | apply pw_below_drewN | apply below_drew1) | exact HB.out)) hb); clear HO318; clear HB; have HO318 := n0_; have HO328 := n1_; have HB := n2_; clear n0_ n1_ n2_; (try clear hb); (try clear hb2); (try clear hk); (try clear hi); (try clear ho0)) | ((with_reducible refine gate_callee (f := 38) rfl ?_); refine goesL_ (some 46) rfl rfl Try.func38 (by kernel_rfl) rfl #[.slice Ao29 t316.length co29] rfl (by (try simp only [List.map_toArray, List.map_cons, List.map_nil]); first | done | rfl | (simp only [List.length_drop, List.length_take]; rfl)) ?_; (with_reducible refine (railplanref30_Star.calls k _ _ t316 t329 t330 _ ?side1 ?side2 A9.out).mono ?_); (case side1 => repeat (first | exact (Kd.S_reads' HO318.out).2.2 | (with_reducible refine Kd.C_alloc ?_ _) | (with_reducible refine Kd.C_drewN ?_ _) | (with_reducible refine Kd.C_drew ?_))); (case side2 => exact (Kd.S_reads' HO318.out).2.1); rintro e w33 ⟨v331, rfl, ho0, hb⟩; refine ⟨_, rfl, ?_⟩; have n0_ := Aside0.mk (Kd.S_elder' (by (with_reducible repeat (first | apply Kd.S_alloc | apply Kd.S_drewN | apply Kd.S_drew)); exact HO318.out) (by first | exact Kd.N_base ho0 | exact Kd.S_base ho0 | exact Kd.R_base ho0 | exact Kd.Q_base ho0) hb); have n1_ := Aside0.mk (Kd.S_elder' (by (with_reducible repeat (first | apply Kd.S_alloc | apply Kd.S_drewN | apply Kd.S_drew)); exact HO328.out) (by first | exact Kd.N_base ho0 | exact Kd.S_base ho0 | exact Kd.R_base ho0 | exact Kd.Q_base ho0) hb); have n2_ := Aside0.mk (Kd.S_lower (Kd.S_new' (Kd.S_new' ho0 (Kd.S_lt (by (with_reducible repeat (first | apply Kd.S_alloc | apply Kd.S_drewN | apply Kd.S_drew)); exact HO318.out))) (Kd.S_lt (by (with_reducible repeat (first | apply Kd.S_alloc | apply Kd.S_drewN | apply Kd.S_drew)); exact HO328.out))) (below_size (by repeat (first | (with_reducible first | exact HB.out | apply below_alloc | apply pw_below_drewN | apply below_drew1) | exact HB.out)))); have n3_ := Aside0.mk (below_step (by repeat (first | (with_reducible first | exact HB.out | apply below_alloc | apply pw_below_drewN | apply below_drew1) | exact HB.out)) hb); clear HO318; clear HO328; clear HB; have HO318 := n0_; have HO328 := n1_; have HO332 := n2_; have HB := n3_; clear n0_ n1_ n2_ n3_; (try clear hb); (try clear hb2); (try clear hk); (try clear hi); (try clear ho0)) | ((with_reducible refine gate_callee (f := 14) rfl ?_); refine goesL_ (some 52) rfl rfl Try.func14 (by kernel_rfl) rfl #[.int .i64 a2, .int .i64 12] rfl (by (try simp only [List.map_toArray, List.map_cons, List.map_nil]); first | done | rfl | (simp only [List.length_drop, List.length_take]; rfl)) ?_; (with_reducible refine (railplankeep_Pick.calls a2 12 t333 _ A10.out).mono ?_); rintro e w' ⟨rfl, ⟨nd, rfl⟩⟩; refine ⟨_, rfl, ?_⟩) | ((with_reducible refine gate_callee (f := 15) rfl ?_); refine goesL_ (some 53) rfl rfl Try.func15 (by kernel_rfl) rfl #[.slice Ao29 t316.length co29, .int .i64 t333] rfl (by (try simp only [List.map_toArray, List.map_cons, List.map_nil]); first | done | rfl | (simp only [List.length_drop, List.length_take]; rfl)) ?_; (with_reducible refine (maxplus_Power.calls k _ _ t316 t333 t334 t335 _ ?side1 ?side2 A11.out).mono ?_); (case side1 => repeat (first | exact (Kd.S_reads' HO318.out).2.2 | (with_reducible refine Kd.C_alloc ?_ _) | (with_reducible refine Kd.C_drewN ?_ _) | (with_reducible refine Kd.C_drew ?_))); (case side2 => exact (Kd.S_reads' HO318.out).2.1); rintro e w34 ⟨v336, rfl, ho0, hb⟩; refine ⟨_, rfl, ?_⟩; have n0_ := Aside0.mk (Kd.S_elder' (by (with_reducible repeat (first | apply Kd.S_alloc | apply Kd.S_drewN | apply Kd.S_drew)); exact HO318.out) (by first | exact Kd.N_base ho0 | exact Kd.S_base ho0 | exact Kd.R_base ho0 | exact Kd.Q_base ho0) hb); have n1_ := Aside0.mk (Kd.S_elder' (by (with_reducible repeat (first | apply Kd.S_alloc | apply Kd.S_drewN | apply Kd.S_drew)); exact HO328.out) (by first | exact Kd.N_base ho0 | exact Kd.S_base ho0 | exact Kd.R_base ho0 | exact Kd.Q_base ho0) hb); have n2_ := Aside0.mk (Kd.S_elder' (by (with_reducible repeat (first | apply Kd.S_alloc | apply Kd.S_drewN | apply Kd.S_drew)); exact HO332.out) (by first | exact Kd.N_base ho0 | exact Kd.S_base ho0 | exact Kd.R_base ho0 | exact Kd.Q_base ho0) hb); have n3_ := Aside0.mk (Kd.S_lower (Kd.S_new' (Kd.S_new' (Kd.S_new' ho0 (Kd.S_lt (by (with_reducible repeat (first | apply Kd.S_alloc | apply Kd.S_drewN | apply Kd.S_drew)); exact HO318.out))) (Kd.S_lt (by (with_reducible repeat (first | apply Kd.S_alloc | apply Kd.S_drewN | apply Kd.S_drew)); exact HO328.out))) (Kd.S_lt (by (with_reducible repeat (first | apply Kd.S_alloc | apply Kd.S_drewN | apply Kd.S_drew)); exact HO332.out))) (below_size (by repeat (first | (with_reducible first | exact HB.out | apply below_alloc | apply pw_below_drewN | apply below_drew1) | exact HB.out)))); have n4_ := Aside0.mk (below_step (by repeat (first | (with_reducible first | exact HB.out | apply below_alloc | apply pw_below_drewN | apply below_drew1) | exact HB.out)) hb); clear HO318; clear HO328; clear HO332; clear HB; have HO318 := n0_; have HO328 := n1_; have HO332 := n2_; have HO337 := n3_; have HB := n4_; clear n0_ n1_ n2_ n3_ n4_; (try clear hb); (try clear hb2); (try clear hk); (try clear hi); (try clear ho0)) | ((with_reducible refine gate_callee (f := 14) rfl ?_); refine goesL_ (some 59) rfl rfl Try.func14 (by kernel_rfl) rfl #[.int .i64 a2, .int .i64 12] rfl (by (try simp only [List.map_toArray, List.map_cons, List.map_nil]); first | done | rfl | (simp only [List.length_drop, List.length_take]; rfl)) ?_; (with_reducible refine (railplankeep_Pick.calls a2 12 t338 _ A12.out).mono ?_); rintro e w' ⟨rfl, ⟨nd, rfl⟩⟩; refine ⟨_, rfl, ?_⟩) | ((with_reducible refine gate_callee (f := 29) rfl ?_); refine goesL_ (some 60) rfl rfl Try.func29 (by kernel_rfl) rfl #[.slice Ao29 t316.length co29, .int .i64 t338] rfl (by (try simp only [List.map_toArray, List.map_cons, List.map_nil]); first | done | rfl | (simp only [List.length_drop, List.length_take]; rfl)) ?_; (with_reducible refine (railplanref30_Power.calls k _ _ t316 t338 t339 t340 _ ?side1 ?side2 A13.out).mono ?_); (case side1 => repeat (first | exact (Kd.S_reads' HO318.out).2.2 | (with_reducible refine Kd.C_alloc ?_ _) | (with_reducible refine Kd.C_drewN ?_ _) | (with_reducible refine Kd.C_drew ?_))); (case side2 => exact (Kd.S_reads' HO318.out).2.1); rintro e w35 ⟨v341, rfl, ho0, hb⟩; refine ⟨_, rfl, ?_⟩; have n0_ := Aside0.mk (Kd.S_elder' (by (with_reducible repeat (first | apply Kd.S_alloc | apply Kd.S_drewN | apply Kd.S_drew)); exact HO318.out) (by first | exact Kd.N_base ho0 | exact Kd.S_base ho0 | exact Kd.R_base ho0 | exact Kd.Q_base ho0) hb); have n1_ := Aside0.mk (Kd.S_elder' (by (with_reducible repeat (first | apply Kd.S_alloc | apply Kd.S_drewN | apply Kd.S_drew)); exact HO328.out) (by first | exact Kd.N_base ho0 | exact Kd.S_base ho0 | exact Kd.R_base ho0 | exact Kd.Q_base ho0) hb); have n2_ := Aside0.mk (Kd.S_elder' (by (with_reducible repeat (first | apply Kd.S_alloc | apply Kd.S_drewN | apply Kd.S_drew)); exact HO332.out) (by first | exact Kd.N_base ho0 | exact Kd.S_base ho0 | exact Kd.R_base ho0 | exact Kd.Q_base ho0) hb); have n3_ := Aside0.mk (Kd.S_elder' (by (with_reducible repeat (first | apply Kd.S_alloc | apply Kd.S_drewN | apply Kd.S_drew)); exact HO337.out) (by first | exact Kd.N_base ho0 | exact Kd.S_base ho0 | exact Kd.R_base ho0 | exact Kd.Q_base ho0) hb); have n4_ := Aside0.mk (Kd.S_lower (Kd.S_new' (Kd.S_new' (Kd.S_new' (Kd.S_new' ho0 (Kd.S_lt (by (with_reducible repeat (first | apply Kd.S_alloc | apply Kd.S_drewN | apply Kd.S_drew)); exact HO318.out))) (Kd.S_lt (by (with_reducible repeat (first | apply Kd.S_alloc | apply Kd.S_drewN | apply Kd.S_drew)); exact HO328.out))) (Kd.S_lt (by (with_reducible repeat (first | apply Kd.S_alloc | apply Kd.S_drewN | apply Kd.S_drew)); exact HO332.out))) (Kd.S_lt (by (with_reducible repeat (first | apply Kd.S_alloc | apply Kd.S_drewN | apply Kd.S_drew)); exact HO337.out))) (below_size (by repeat (first | (with_reducible first | exact HB.out | apply below_alloc | apply pw_below_drewN | apply below_drew1) | exact HB.out)))); have n5_ := Aside0.mk (below_step (by repeat (first | (with_reducible first | exact HB.out | apply below_alloc | apply pw_below_drewN | apply below_drew1) | exact HB.out)) hb); clear HO318; clear HO328; clear HO332; clear HO337; clear HB; have HO318 := n0_; have HO328 := n1_; have HO332 := n2_; have HO337 := n3_; have HO342 := n4_; have HB := n5_; clear n0_ n1_ n2_ n3_ n4_ n5_; (try clear hb); (try clear hb2); (try clear hk); (try clear hi); (try clear ho0)) | ((with_reducible refine gate_callee (f := 17) rfl ?_); refine goesL_ (some 63) rfl rfl Try.func17 (by kernel_rfl) rfl #[] rfl (by (try simp only [List.map_toArray, List.map_cons, List.map_nil]); first | done | rfl | (simp only [List.length_drop, List.length_take]; rfl)) ?_; (with_reducible refine (railplanlaw33_awake.calls k  true _ A14.out ⟨by first | rfl | assumption | exact hT.out⟩).mono ?_); rintro e w36 ⟨rfl, hb⟩; refine ⟨_, rfl, ?_⟩; have n0_ := Aside0.mk (Kd.S_below (by (with_reducible repeat (first | apply Kd.S_alloc | apply Kd.S_drewN | apply Kd.S_drew)); exact HO318.out) hb); have n1_ := Aside0.mk (Kd.S_below (by (with_reducible repeat (first | apply Kd.S_alloc | apply Kd.S_drewN | apply Kd.S_drew)); exact HO328.out) hb); have n2_ := Aside0.mk (Kd.S_below (by (with_reducible repeat (first | apply Kd.S_alloc | apply Kd.S_drewN | apply Kd.S_drew)); exact HO332.out) hb); have n3_ := Aside0.mk (Kd.S_below (by (with_reducible repeat (first | apply Kd.S_alloc | apply Kd.S_drewN | apply Kd.S_drew)); exact HO337.out) hb); have n4_ := Aside0.mk (Kd.S_below (by (with_reducible repeat (first | apply Kd.S_alloc | apply Kd.S_drewN | apply Kd.S_drew)); exact HO342.out) hb); have n5_ := Aside0.mk (below_step (by repeat (first | (with_reducible first | exact HB.out | apply below_alloc | apply pw_below_drewN | apply below_drew1) | exact HB.out)) hb); clear HO318; clear HO328; clear HO332; clear HO337; clear HO342; clear HB; have HO318 := n0_; have HO328 := n1_; have HO332 := n2_; have HO337 := n3_; have HO342 := n4_; have HB := n5_; clear n0_ n1_ n2_ n3_ n4_ n5_; (try clear hb); (try clear hb2); (try clear hk); (try clear hi)) | (go_at_call 36; (with_reducible refine (maxplus_Critical.calls k _ _ t316 t344 _ ?side1 ?side2 A19.out).mono ?_); (case side1 => repeat (first | exact (Kd.S_reads' HO318.out).2.2 | (with_reducible refine Kd.C_alloc ?_ _) | (with_reducible refine Kd.C_drewN ?_ _) | (with_reducible refine Kd.C_drew ?_))); (case side2 => exact (Kd.S_reads' HO318.out).2.1); rintro e w37 ⟨v345, rfl, ho0, hb⟩; have n0_ := Aside0.mk (Kd.S_elder' (by (with_reducible repeat (first | apply Kd.S_alloc | apply Kd.S_drewN | apply Kd.S_drew)); exact HO318.out) (by first | exact Kd.N_base ho0 | exact Kd.S_base ho0 | exact Kd.R_base ho0 | exact Kd.Q_base ho0) hb); have n1_ := Aside0.mk (Kd.S_elder' (by (with_reducible repeat (first | apply Kd.S_alloc | apply Kd.S_drewN | apply Kd.S_drew)); exact HO328.out) (by first | exact Kd.N_base ho0 | exact Kd.S_base ho0 | exact Kd.R_base ho0 | exact Kd.Q_base ho0) hb); have n2_ := Aside0.mk (Kd.S_elder' (by (with_reducible repeat (first | apply Kd.S_alloc | apply Kd.S_drewN | apply Kd.S_drew)); exact HO332.out) (by first | exact Kd.N_base ho0 | exact Kd.S_base ho0 | exact Kd.R_base ho0 | exact Kd.Q_base ho0) hb); have n3_ := Aside0.mk (Kd.S_elder' (by (with_reducible repeat (first | apply Kd.S_alloc | apply Kd.S_drewN | apply Kd.S_drew)); exact HO337.out) (by first | exact Kd.N_base ho0 | exact Kd.S_base ho0 | exact Kd.R_base ho0 | exact Kd.Q_base ho0) hb); have n4_ := Aside0.mk (Kd.S_elder' (by (with_reducible repeat (first | apply Kd.S_alloc | apply Kd.S_drewN | apply Kd.S_drew)); exact HO342.out) (by first | exact Kd.N_base ho0 | exact Kd.S_base ho0 | exact Kd.R_base ho0 | exact Kd.Q_base ho0) hb); have n5_ := Aside0.mk (Kd.R_lower ho0 (below_size (by repeat (first | (with_reducible first | exact HB.out | apply below_alloc | apply pw_below_drewN | apply below_drew1) | exact HB.out)))); have n6_ := Aside0.mk (below_step (by repeat (first | (with_reducible first | exact HB.out | apply below_alloc | apply pw_below_drewN | apply below_drew1) | exact HB.out)) hb); clear HO318; clear HO328; clear HO332; clear HO337; clear HO342; clear HB; have HO318 := n0_; have HO328 := n1_; have HO332 := n2_; have HO337 := n3_; have HO342 := n4_; have HO346 := n5_; have HB := n6_; clear n0_ n1_ n2_ n3_ n4_ n5_ n6_; (try clear hb); (try clear hb2); (try clear hk); (try clear hi); (try clear ho0)) | (go_at_call 24; (with_reducible refine (railplanref30_Critical.calls k (fun k_ => (((((True ∧ some k_ ≠ (v327 : Value).ownBlock) ∧ some k_ ≠ (v331 : Value).ownBlock) ∧ some k_ ≠ (v336 : Value).ownBlock) ∧ some k_ ≠ (v341 : Value).ownBlock) ∧ some k_ ≠ (v345 : Value).ownBlock)) _ _ t316 t347 _ ?side1 A20.out).mono ?_); (case side1 => exact Kd.S_V (HO318.out)); rintro e w38 ⟨v348, rfl, ho0, hb⟩; have n0_ := Aside0.mk (Kd.S_elder' (by (with_reducible repeat (first | apply Kd.S_alloc | apply Kd.S_drewN | apply Kd.S_drew)); exact HO318.out) (by first | exact Kd.N_base ho0 | exact Kd.S_base ho0 | exact Kd.R_base ho0 | exact Kd.Q_base ho0) hb); have n1_ := Aside0.mk (Kd.S_elder' (by (with_reducible repeat (first | apply Kd.S_alloc | apply Kd.S_drewN | apply Kd.S_drew)); exact HO328.out) (by first | exact Kd.N_base ho0 | exact Kd.S_base ho0 | exact Kd.R_base ho0 | exact Kd.Q_base ho0) hb); have n2_ := Aside0.mk (Kd.S_elder' (by (with_reducible repeat (first | apply Kd.S_alloc | apply Kd.S_drewN | apply Kd.S_drew)); exact HO332.out) (by first | exact Kd.N_base ho0 | exact Kd.S_base ho0 | exact Kd.R_base ho0 | exact Kd.Q_base ho0) hb); have n3_ := Aside0.mk (Kd.S_elder' (by (with_reducible repeat (first | apply Kd.S_alloc | apply Kd.S_drewN | apply Kd.S_drew)); exact HO337.out) (by first | exact Kd.N_base ho0 | exact Kd.S_base ho0 | exact Kd.R_base ho0 | exact Kd.Q_base ho0) hb); have n4_ := Aside0.mk (Kd.S_elder' (by (with_reducible repeat (first | apply Kd.S_alloc | apply Kd.S_drewN | apply Kd.S_drew)); exact HO342.out) (by first | exact Kd.N_base ho0 | exact Kd.S_base ho0 | exact Kd.R_base ho0 | exact Kd.Q_base ho0) hb); have n5_ := Aside0.mk (Kd.R_elder' (by (with_reducible repeat (first | apply Kd.R_alloc | apply Kd.R_drewN | apply Kd.R_drew)); exact HO346.out) (by first | exact Kd.N_base ho0 | exact Kd.S_base ho0 | exact Kd.R_base ho0 | exact Kd.Q_base ho0) hb); have n6_ := Aside0.mk (Kd.R_lower (Kd.R_new' (Kd.R_mono (ok' := fun k_ => True) ho0 (fun _ hk_ => trivial)) (Kd.R_lt (by (with_reducible repeat (first | apply Kd.R_alloc | apply Kd.R_drewN | apply Kd.R_drew)); exact HO346.out))) (below_size (by repeat (first | (with_reducible first | exact HB.out | apply below_alloc | apply pw_below_drewN | apply below_drew1) | exact HB.out)))); have n7_ := Aside0.mk (below_step (by repeat (first | (with_reducible first | exact HB.out | apply below_alloc | apply pw_below_drewN | apply below_drew1) | exact HB.out)) hb); clear HO318; clear HO328; clear HO332; clear HO337; clear HO342; clear HO346; clear HB; have HO318 := n0_; have HO328 := n1_; have HO332 := n2_; have HO337 := n3_; have HO342 := n4_; have HO346 := n5_; have HO349 := n6_; have HB := n7_; clear n0_ n1_ n2_ n3_ n4_ n5_ n6_ n7_; (try clear hb); (try clear hb2); (try clear hk); (try clear hi); (try clear ho0); obtain ⟨Ao39, co39, eo39⟩ := Kd.R_slice HO346.out; subst eo39; obtain ⟨Ao40, co40, eo40⟩ := Kd.R_slice HO349.out; subst eo40) | (go_at_call 34; (with_reducible refine (railplankeep_Same_int.calls k _ _ t344 _ _ t347 true _ ?side1 ?side2 ?side3 ?side4 A21.out).mono ?_); (case side1 => repeat (first | exact (Kd.R_reads' HO346.out).2.2 | (with_reducible refine Kd.C_alloc ?_ _) | (with_reducible refine Kd.C_drewN ?_ _) | (with_reducible refine Kd.C_drew ?_))); (case side2 => exact (Kd.R_reads' HO346.out).2.1); (case side3 => repeat (first | exact (Kd.R_reads' HO349.out).2.2 | (with_reducible refine Kd.C_alloc ?_ _) | (with_reducible refine Kd.C_drewN ?_ _) | (with_reducible refine Kd.C_drew ?_))); (case side4 => exact (Kd.R_reads' HO349.out).2.1); rintro e w' ⟨rfl, ⟨nd, rfl⟩⟩; obtain ⟨Ao41, co41, eo41⟩ := Kd.S_slice HO328.out; subst eo41; obtain ⟨Ao42, co42, eo42⟩ := Kd.S_slice HO332.out; subst eo42) | (go_at_call 18; (with_reducible refine (railplankeep_SameLists_int.calls k _ _ t325 _ _ t329 true _ ?side1 ?side2 ?side3 ?side4 A23.out).mono ?_); (case side1 => repeat (first | exact (Kd.S_reads' HO328.out).2.2 | (with_reducible refine Kd.C_alloc ?_ _) | (with_reducible refine Kd.C_drewN ?_ _) | (with_reducible refine Kd.C_drew ?_))); (case side2 => exact (Kd.S_reads' HO328.out).2.1); (case side3 => repeat (first | exact (Kd.S_reads' HO332.out).2.2 | (with_reducible refine Kd.C_alloc ?_ _) | (with_reducible refine Kd.C_drewN ?_ _) | (with_reducible refine Kd.C_drew ?_))); (case side4 => exact (Kd.S_reads' HO332.out).2.1); rintro e w' ⟨rfl, ⟨nd, rfl⟩⟩; obtain ⟨Ao43, co43, eo43⟩ := Kd.S_slice HO337.out; subst eo43; obtain ⟨Ao44, co44, eo44⟩ := Kd.S_slice HO342.out; subst eo44) | (go_at_call 18; (with_reducible refine (railplankeep_SameLists_int.calls k _ _ t334 _ _ t339 true _ ?side1 ?side2 ?side3 ?side4 A26.out).mono ?_); (case side1 => repeat (first | exact (Kd.S_reads' HO337.out).2.2 | (with_reducible refine Kd.C_alloc ?_ _) | (with_reducible refine Kd.C_drewN ?_ _) | (with_reducible refine Kd.C_drew ?_))); (case side2 => exact (Kd.S_reads' HO337.out).2.1); (case side3 => repeat (first | exact (Kd.S_reads' HO342.out).2.2 | (with_reducible refine Kd.C_alloc ?_ _) | (with_reducible refine Kd.C_drewN ?_ _) | (with_reducible refine Kd.C_drew ?_))); (case side4 => exact (Kd.S_reads' HO342.out).2.1); rintro e w' ⟨rfl, ⟨nd, rfl⟩⟩))
         go_ret
         exact ⟨by first | rfl | (simp [errW_none, errW_some] <;> rfl) | (simp [*, errW_none, errW_some] <;> rfl), by repeat (first | (with_reducible first | exact HB.out | apply below_alloc | apply pw_below_drewN | apply below_drew1) | exact HB.out)⟩
        ·replace c27 := Bool.eq_false_iff.mpr c27
         subst c27
         have H1 : (some false) = some r := by rw [if_neg (show ¬ (false = true) by decide)] at H; exact H
         clear H
         have H := H1
         clear H1
         exact absurd (Option.some.inj H) (by rw [hT.out]; decide)
       ·rw [if_neg c25] at H
        have c25b0 : (t326 == t330) = false := beq_eq_false_iff_ne.mpr c25
        have c25b1 : (t326 != t330) = true := bne_iff_ne.mpr c25
        exact absurd (Option.some.inj H) (by rw [hT.out]; decide)
      ·replace c24 := Bool.eq_false_iff.mpr c24
       subst c24
       have H1 : (some false) = some r := by rw [if_neg (show ¬ (false = true) by decide)] at H; exact H
       clear H
       have H := H1
       clear H1
       exact absurd (Option.some.inj H) (by rw [hT.out]; decide)
     ·replace c22 := Bool.eq_false_iff.mpr c22
      subst c22
      have H1 : (some false) = some r := by rw [if_neg (show ¬ (false = true) by decide)] at H; exact H
      clear H
      have H := H1
      clear H1
      exact absurd (Option.some.inj H) (by rw [hT.out]; decide)
    ·rw [if_neg c18] at H
     have c18b0 : (t321 == t324) = false := by simpa using c18
     (try (have c18b1 : decide (t321 = t324) = false := by simpa using c18))
     (try (have c18b2 : (t321 == t324) = false := by simpa using c18))
     (try (have c18b3 : ¬ (t321 = t324) := by simpa using c18))
     clear c18
     exact absurd (Option.some.inj H) (by rw [hT.out]; decide)
   ·rw [if_neg c17] at H
    have c17b0 : (t320 == t323) = false := beq_eq_false_iff_ne.mpr c17
    have c17b1 : (t320 != t323) = true := bne_iff_ne.mpr c17
    exact absurd (Option.some.inj H) (by rw [hT.out]; decide)
  ·rw [if_neg c16] at H
   have c16b0 : (t319 == t322) = false := beq_eq_false_iff_ne.mpr c16
   have c16b1 : (t319 != t322) = true := bne_iff_ne.mpr c16
   exact absurd (Option.some.inj H) (by rw [hT.out]; decide)
 ·replace c15 := Bool.eq_false_iff.mpr c15
  subst c15
  have H1 : (some false) = some r := by rw [if_neg (show ¬ (false = true) by decide)] at H; exact H
  clear H
  have H := H1
  clear H1
  exact absurd (Option.some.inj H) (by rw [hT.out]; decide)

/-- THE ONE PURE STATEMENT of railplanlaw33_MaxplusMade: yours. -/
def railplanlaw33_MaxplusMade.Pure : Prop := ∀ (a0 : Int) (l1 : List Int) (a2 : Int), (Lit.int .i64 a0).wf = true → l1.length ≤ maxLen → l1.length * 8 ≤ 140737488351232 → (∀ x ∈ l1, (Lit.int .i64 x).wf = true) → (Lit.int .i64 a2).wf = true → ∃ k, railplanlaw33_MaxplusMade.f k a0 l1 a2 = some true
theorem railplanlaw33_MaxplusMade.walk (P : railplanlaw33_MaxplusMade.Pure) (a0 : Int) (a1 : Option Addr) (len1 cap1 : Nat) (z1 : List Int) (a2 : Int) (w : World) (w0 : (Lit.int .i64 a0).wf = true) (w1 : (a1 = none ∧ len1 = 0 ∧ cap1 = 0 ∧ z1 = []) ∨ ∃ x, a1 = some x ∧ len1 ≤ cap1 ∧ cap1 ≤ maxLen ∧ z1.length = cap1 ∧ (∀ i, i < z1.length → w.cell? (x.add i) = some (.int .i64 (z1.getD i 0))) ∧ ∀ n ∈ z1, (Lit.int .i64 n).wf = true) (y1 : len1 * 8 ≤ 140737488351232) (w2 : (Lit.int .i64 a2).wf = true) :
  Calls Try.prog 12 #[.int .i64 a0, .slice a1 len1 cap1, .int .i64 a2] w fun e w' => e = .returned (.bool true) ∧ Below w.heap.size w w' := by
 obtain ⟨l1, rfl, hr1, hm1, hw1, hc1⟩ := ReadsInt.ofRowC w1
 obtain ⟨k, h⟩ := P a0 l1 a2 w0 hm1 y1 hw1 w2
 refine (railplanlaw33_MaxplusMade.calls k a0 _ _ l1 a2 true w (Kd.C_of_reads (d := (0 : Int)) (h1 := fun _ => rfl) hr1) hc1 h ⟨rfl⟩).mono ?_
 rintro e w' ⟨rfl, hd⟩
 exact ⟨rfl, hd⟩

end Go.Proofs.Ytnmhdeibjglhcaa.XAll
