-- This session's own text, written by wip/tools/xall.py after the form of the kit's print.
import Derived.Test.YtpioelilfhkfdaaXAllx0
import Derived.Test.YtpioelilfhkfdaaXAllx1
import Derived.Test.YtpioelilfhkfdaaXAllx6
import Derived.Test.YtpioelilfhkfdaaXAllx7
import Derived.Test.YtpioelilfhkfdaaXAllx15
namespace Go.Proofs.Ytpioelilfhkfdaa.XAll
open Go.RowKit Go.Proofs.YtpioelilfhkfdaaW.PrintWords Go.Proofs.YtpioelilfhkfdaaW.PrintLast Go.Proofs.YtpioelilfhkfdaaW.PrintMore
attribute [local go_sem] max2_int min2_int max_two min_two max_three min_three max_four min_four   -- for this text's walks alone
set_option linter.unusedVariables false
set_option linter.unusedSimpArgs false

/-! ### railplanref17_search_discarded: function 76 -/
theorem refmod_f (a b : Int) (h : 1 ≤ b) (hb : b ≤ 1000000) (ha : -1000000000 ≤ a ∧ a ≤ 1000000000) : railplanref1_Mod.f a b = some (a % b) := by
 unfold railplanref1_Mod.f
 rw [if_neg (by omega), if_neg (by omega)]
 have h3 := Int.tmod_eq_emod (a := a) (b := b)
 have h4 := Int.emod_nonneg a (show b ≠ 0 by omega)
 have h5 := Int.emod_lt_of_pos a (show 0 < b by omega)
 by_cases hd : 0 ≤ a ∨ b ∣ a
 ·rw [if_pos hd] at h3
  rw [if_neg (by omega)]
  simp [h3]
 ·rw [if_neg hd] at h3
  have hz : a % b ≠ 0 := fun hz => hd (.inr (Int.dvd_of_emod_eq_zero hz))
  have hn : (b.natAbs : Int) = b := by omega
  rw [if_pos (by omega)]
  have e : wrap64 (a.tmod b + b) = a % b := by unfold wrap64; omega
  rw [e]
theorem reflasts_f (P : Int) (le : List S60) (ac : List S62) (ts : List Int) (a : S62) (hP : 2 ≤ P ∧ P ≤ 7200) (hg : GoodAct P ts.length a) (hts : ∀ i, 0 ≤ i → i < (ts.length : Int) → 0 ≤ rd ts i ∧ rd ts i ≤ 7200) : railplanref11_Lasts.f P le ac ts a.f0 a.f1 a.f2 a.f3 a.f4 a.f5 = some (lastsF P a (rd ts a.f1) (rd ts a.f2)) := by
 obtain ⟨⟨q1, q1'⟩, ⟨q2, q2'⟩, ⟨q3, q3'⟩, _, _⟩ := hg
 have hx := hts a.f1 q1 q1'
 have hy := hts a.f2 q2 q2'
 unfold railplanref11_Lasts.f lastsF
 rw [if_pos q2, if_pos q2', if_pos q1, if_pos q1']
 generalize rd ts a.f1 = x at *
 generalize rd ts a.f2 = y at *
 have e1 : wrap64 (y - x) = y - x := by unfold wrap64; omega
 have e2 : wrap64 (y - x - a.f3) = y - x - a.f3 := by unfold wrap64; omega
 rw [e1, e2, refmod_f _ _ (by omega) (by omega) (by omega)]
 have h1 := Int.emod_nonneg (y - x - a.f3) (show P ≠ 0 by omega)
 have h2 := Int.emod_lt_of_pos (y - x - a.f3) (show 0 < P by omega)
 have e3 : wrap64 (a.f3 + (y - x - a.f3) % P) = a.f3 + (y - x - a.f3) % P := by unfold wrap64; omega
 show some (wrap64 (a.f3 + (y - x - a.f3) % P)) = _
 rw [e3]
/-- The sum over all activities, those that are ready with their durations; none: one is not satisfied. -/
def sumD (P : Int) (ts : List Int) (i : Int) : List S62 → Int → Option Int
 | [], s => some s
 | a :: al, s => if a.f1 > i ∨ a.f2 > i then sumD P ts i al (s + a.f5 * a.f3) else if lastsF P a (rd ts a.f1) (rd ts a.f2) > a.f4 then none else sumD P ts i al (s + a.f5 * lastsF P a (rd ts a.f1) (rd ts a.f2))
/-- A trial is discarded. -/
def discF (P : Int) (ac : List S62) (ts : List Int) (i : Int) (all found : Bool) (best : Int) : Bool := match sumD P ts i ac 0 with
 | none => true
 | some s => all && (found && decide (s ≥ best))
theorem rd36d (l : List S62) (i : Nat) (h : i < l.length) : l.drop i = rd_T62 l (i : Int) :: l.drop (i + 1) := by
 unfold rd_T62
 rw [Int.toNat_natCast, List.getD_eq_getElem?_getD, List.getElem?_eq_getElem h]
 exact List.drop_eq_getElem_cons h
set_option maxHeartbeats 4000000 in
set_option maxRecDepth 100000 in
theorem disc_calls (P : Int) (le : List S60) (ac : List S62) (ts : List Int) (g T : Nat) (vF vS : Value) (AE Aa : Option Addr) (cE ca cT : Nat) (over all found : Bool) (budget used best : Int) (W : World) (i : Int)
  (hg : W.heap[g]? = some (.cells #[.int .i64 P, .slice AE le.length cE, .slice Aa ac.length ca, vF, .int .i64 budget, .int .i64 used, .bool over, .bool all, .bool found, .int .i64 best, vS, .slice (some ⟨T, 0, none⟩) ts.length cT] 79 (0, 0)))
  (hT : W.heap[T]? = some (.cells (ts.map (Value.int .i64)).toArray 3 (0, 0)))
  (hac : ∀ W', Kept W W' (FS g T) → Kd.C k62 W' Aa ac.length ac) (hle : ∀ W', Kept W W' (FS g T) → Kd.C k60 W' AE le.length le) (hca : ac.length ≤ ca) (hcE : le.length ≤ cE) (hcT : ts.length ≤ cT) (htl : ts.length ≤ 48)
  (hP : 2 ≤ P ∧ P ≤ 7200) (hgood : ∀ a ∈ ac, GoodAct P ts.length a) (hts : ∀ i, 0 ≤ i → i < (ts.length : Int) → 0 ≤ rd ts i ∧ rd ts i ≤ 7200) (hlen : ac.length ≤ 512) :
  Calls Try.prog 76 #[.pointer (some ⟨g, 0, none⟩), .int .i64 i] W fun e w' => e = .returned (.bool (discF P ac ts i all found best)) ∧ Below W.heap.size W w' := by
 have HG := qo hg
 have HT := qo hT
 have HAC := qo hac
 have HLE := qo hle
 have HGOOD := qo hgood
 have HTS := qo hts
 have HCA := qo hca
 have HCE := qo hcE
 have HCT := qo hcT
 clear hg hT hac hle hgood hts hca hcE hcT
 go_enter Try.func76, Try.ntmps76
 go_wp2_with fail
 go_loopg [5, 6] ac.length (fun kq v5 v6 w' => ∃ (j : Nat) (s1 : Int), v5 = .int .i64 s1 ∧ v6 = .int .i64 j ∧ Aside0 (j + kq = ac.length) ∧ Aside0 (sumD P ts i (ac.drop j) s1 = sumD P ts i ac 0) ∧ Aside0 (-80000000000 * (j : Int) ≤ s1 ∧ s1 ≤ 80000000000 * (j : Int)) ∧ Aside0 (Below W.heap.size W w'))
 case atStart => exact ⟨0, 0, rfl, rfl, ⟨by omega⟩, ⟨rfl⟩, ⟨by omega⟩, ⟨qaj _ _⟩⟩
 case round =>
  obtain ⟨j, s1, rfl, rfl, HK, HE, HS, HB⟩ := hrel
  have hjle : j ≤ ac.length := by have := HK.out; omega
  have hg := qaa HG.out HB.out
  have hg2 : wr.cell? ⟨g, 2, none⟩ = some (.slice Aa ac.length ca) := (qe hg 2).trans rfl
  by_cases hlt : j < ac.length
  ·have hd := rd36d ac j hlt
   have hga := HGOOD.out _ (rd36' ac j (by omega) (by omega))
   have hlf := reflasts_f P le ac ts _ hP hga HTS.out
   obtain ⟨aa, rfl, ha0, ha1, ha2, ha3, ha4, ha5⟩ := at_T62 (HAC.out wr (Kept.of_below HB.out _)) (j : Int) (by omega) (by omega)
   simp only [Int.toNat_natCast] at ha0 ha1 ha2 ha3 ha4 ha5
   generalize hx : rd_T62 ac (j : Int) = x at *
   have hstep : sumD P ts i (ac.drop j) s1 = if x.f1 > i ∨ x.f2 > i then sumD P ts i (ac.drop (j + 1)) (s1 + x.f5 * x.f3) else if lastsF P x (rd ts x.f1) (rd ts x.f2) > x.f4 then none else sumD P ts i (ac.drop (j + 1)) (s1 + x.f5 * lastsF P x (rd ts x.f1) (rd ts x.f2)) := by
    rw [hd]
    simp only [sumD]
   have HST := qo hstep
   clear hx hd hstep
   obtain ⟨⟨q1, q1'⟩, ⟨q2, q2'⟩, ⟨q3, q3'⟩, ⟨q4, q4'⟩, q5, q5'⟩ := hga
   have hs1 := HS.out.1
   have hs2 := HS.out.2
   have hj512 : j ≤ 512 := by omega
   have hd0 : x.f3 ≤ lastsF P x (rd ts x.f1) (rd ts x.f2) ∧ lastsF P x (rd ts x.f1) (rd ts x.f2) < x.f3 + P := by
    have h1 := Int.emod_nonneg (rd ts x.f2 - rd ts x.f1 - x.f3) (show P ≠ 0 by omega)
    have h2 := Int.emod_lt_of_pos (rd ts x.f2 - rd ts x.f1 - x.f3) (show 0 < P by omega)
    unfold lastsF
    omega
   generalize hdd : lastsF P x (rd ts x.f1) (rd ts x.f2) = d at *
   clear hdd
   have HLF := qo hlf
   clear hlf
   obtain ⟨hd1, hd2⟩ := hd0
   have hma := Int.mul_le_mul_of_nonneg_left q3 q5
   have hmb := Int.mul_le_mul_of_nonneg_left q3' q5
   have hmc := Int.mul_le_mul_of_nonneg_left (show -65536 ≤ d by omega) q5
   have hmd := Int.mul_le_mul_of_nonneg_left (show d ≤ 72736 by omega) q5
   have hskip : ∀ (Z : World) , x.f1 > i ∨ x.f2 > i → True := fun _ _ => trivial
   clear hskip
   by_cases c1 : x.f1 > i
   ·have HSK : Aside0 (x.f1 > i ∨ x.f2 > i) := ⟨.inl c1⟩
    go_wp2_with fail
    go_roundg (gk - 1)
    case measure => have := HK.out; omega
    case rel => exact ⟨j + 1, s1 + x.f5 * x.f3, by go_num, by go_num, ⟨by have := HK.out; omega⟩, ⟨by rw [← HE.out, HST.out, if_pos HSK.out]⟩, ⟨by omega⟩, ⟨qc HB.out _⟩⟩
   ·by_cases c2 : x.f2 > i
    ·have HSK : Aside0 (x.f1 > i ∨ x.f2 > i) := ⟨.inr c2⟩
     go_wp2_with fail
     go_roundg (gk - 1)
     case measure => have := HK.out; omega
     case rel => exact ⟨j + 1, s1 + x.f5 * x.f3, by go_num, by go_num, ⟨by have := HK.out; omega⟩, ⟨by rw [← HE.out, HST.out, if_pos HSK.out]⟩, ⟨by omega⟩, ⟨qc HB.out _⟩⟩
    ·have HSK : Aside0 (¬ (x.f1 > i ∨ x.f2 > i)) := ⟨by omega⟩
     rw [if_neg HSK.out] at HST
     have hg0 : wr.cell? ⟨g, 0, none⟩ = some (.int .i64 P) := (qe hg 0).trans rfl
     have hg1 : wr.cell? ⟨g, 1, none⟩ = some (.slice AE le.length cE) := (qe hg 1).trans rfl
     have hg11 : wr.cell? ⟨g, 11, none⟩ = some (.slice (some ⟨T, 0, none⟩) ts.length cT) := (qe hg 11).trans rfl
     clear hg
     go_wp2_with fail
     refine still_tail 9 (by kernel_rfl) (by kernel_rfl) (fun wd hwd => ?_)
     simp only [List.take_succ_cons, List.take_zero, List.drop_succ_cons, List.drop_zero]
     have hbd : Below wr.heap.size wr wd := by rw [hwd]; exact qd (qc (qaj _ _) _)
     have e0 := pw_cell_below hbd hg0
     have e1 := pw_cell_below hbd hg1
     have e2 := pw_cell_below hbd hg2
     have e11 := pw_cell_below hbd hg11
     have eb : wd.heap[wr.heap.size]? = some (.cells #[.int .i64 x.f0, .int .i64 x.f1, .int .i64 x.f2, .int .i64 x.f3, .int .i64 x.f4, .int .i64 x.f5] 62 (0, 0)) := by rw [hwd]; exact qm (blk_new _ _)
     have b0 := (qe eb 0).trans rfl
     have b1 := (qe eb 1).trans rfl
     have b2 := (qe eb 2).trans rfl
     have b3 := (qe eb 3).trans rfl
     have b4 := (qe eb 4).trans rfl
     have b5 := (qe eb 5).trans rfl
     have after : ∀ w3 : World, Below wd.heap.size wd w3 → w3.cell? ⟨wr.heap.size, 4, none⟩ = some (.int .i64 x.f4) ∧ w3.cell? ⟨wr.heap.size, 5, none⟩ = some (.int .i64 x.f5) := fun w3 h => ⟨pw_cell_below h b4, pw_cell_below h b5⟩
     have HBD := qo (qt HB.out hbd)
     have HCC := qo (⟨HLE.out wd (Kept.of_below HBD.out _), HAC.out wd (Kept.of_below HBD.out _), C_blk (qaa HT.out HBD.out) (by omega)⟩ : Kd.C k60 wd AE le.length le ∧ Kd.C k62 wd (some aa) ac.length ac ∧ Kd.C (Kd.int .i64) wd (some ⟨T, 0, none⟩) ts.length ts)
     have AF := qo after
     clear hwd eb hg0 hg1 hg2 hg11 ha0 ha1 ha2 ha3 ha4 ha5 after hbd
     repeat still_step
     refine wpStill_nil ?_
     clear b0 b1 b2 b3 b4 b5 e0 e1 e2 e11
     by_cases hgt : d > x.f4
     ·go_wp2_with (go_at_call 44; refine (railplanref11_Lasts.calls P AE cE le (some aa) ca ac (some ⟨T, 0, none⟩) cT ts x.f0 x.f1 x.f2 x.f3 x.f4 x.f5 d _ HCC.out.1 HCE.out HCC.out.2.1 HCA.out HCC.out.2.2 HCT.out HLF.out).mono ?_; rintro e w3 ⟨rfl, hb3⟩; have HB3 := qo hb3; obtain ⟨k4, k5⟩ := AF.out w3 hb3; clear hb3)
      go_ret
      rw [if_pos hgt] at HST
      exact ⟨ret_bool (by unfold discF; rw [← HE.out, HST.out]), qt HBD.out HB3.out⟩
     ·go_wp2_with (go_at_call 44; refine (railplanref11_Lasts.calls P AE cE le (some aa) ca ac (some ⟨T, 0, none⟩) cT ts x.f0 x.f1 x.f2 x.f3 x.f4 x.f5 d _ HCC.out.1 HCE.out HCC.out.2.1 HCA.out HCC.out.2.2 HCT.out HLF.out).mono ?_; rintro e w3 ⟨rfl, hb3⟩; have HB3 := qo hb3; obtain ⟨k4, k5⟩ := AF.out w3 hb3; clear hb3)
      rw [if_neg (show ¬ d > x.f4 by omega)] at HST
      go_roundg (gk - 1)
      case measure => have := HK.out; omega
      case rel => exact ⟨j + 1, s1 + x.f5 * d, by go_num, by go_num, ⟨by have := HK.out; omega⟩, ⟨by rw [← HE.out, HST.out]⟩, ⟨by omega⟩, ⟨qt HBD.out HB3.out⟩⟩
  ·have hj : j = ac.length := by omega
   have h1 := HE.out
   rw [hj, List.drop_length] at h1
   have HR : Aside0 (discF P ac ts i all found best = (all && (found && decide (s1 ≥ best)))) := ⟨by unfold discF; rw [← h1]; rfl⟩
   clear h1 hj
   have g7 : wr.cell? ⟨g, 7, none⟩ = some (.bool all) := (qe hg 7).trans rfl
   have g8 : wr.cell? ⟨g, 8, none⟩ = some (.bool found) := (qe hg 8).trans rfl
   have g9 : wr.cell? ⟨g, 9, none⟩ = some (.int .i64 best) := (qe hg 9).trans rfl
   clear hg
   cases all with
   | false =>
    go_wp2_with fail
    go_ret
    exact ⟨ret_bool (by rw [HR.out]; rfl), HB.out⟩
   | true =>
    cases found with
    | false =>
     go_wp2_with fail
     go_ret
     exact ⟨ret_bool (by rw [HR.out]; rfl), HB.out⟩
    | true =>
     go_wp2_with fail
     go_ret
     exact ⟨ret_bool (by rw [HR.out]; simp), HB.out⟩

end Go.Proofs.Ytpioelilfhkfdaa.XAll
