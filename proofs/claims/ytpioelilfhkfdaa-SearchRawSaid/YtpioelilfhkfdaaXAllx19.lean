-- This session's own text, written by wip/tools/xall.py after the form of the kit's print.
import Derived.Test.YtpioelilfhkfdaaXAllx0
import Derived.Test.YtpioelilfhkfdaaXAllx1
import Derived.Test.YtpioelilfhkfdaaXAllx6
import Derived.Test.YtpioelilfhkfdaaXAllx8
import Derived.Test.YtpioelilfhkfdaaXAllx10
import Derived.Test.YtpioelilfhkfdaaXAllx11
import Derived.Test.YtpioelilfhkfdaaXAllx12
import Derived.Test.YtpioelilfhkfdaaXAllx13
import Derived.Test.YtpioelilfhkfdaaXAllx18
namespace Go.Proofs.Ytpioelilfhkfdaa.XAll
open Go.RowKit Go.Proofs.YtpioelilfhkfdaaW.PrintWords Go.Proofs.YtpioelilfhkfdaaW.PrintLast Go.Proofs.YtpioelilfhkfdaaW.PrintMore
attribute [local go_sem] max2_int min2_int max_two min_two max_three min_three max_four min_four   -- for this text's walks alone
set_option linter.unusedVariables false
set_option linter.unusedSimpArgs false

/-! ### railplanref17_run: function 46 -/
theorem refin17_f (a lo hi : Int) : railplanref17_in.f a lo hi = some (decide (lo ≤ a) && decide (a ≤ hi)) := by
 unfold railplanref17_in.f
 by_cases h : lo ≤ a
 ·by_cases h2 : a ≤ hi <;> simp [h, h2]
 ·simp [h]
/-- The reference's state behind a search. -/
def rstF (P : Int) (le : List S60) (ac : List S62) (comp : List Int) (budget : Int) (all : Bool) : RSt :=
 (visitF P le.length ac (newF comp le.length le.length) budget all (le.length + 1) 0 ⟨0, List.replicate le.length 0, false, false, [], 0⟩).1
def rcode (st : RSt) : Int := if st.over = true then 15 else if st.found = true then 0 else 14
theorem rinv_start (P : Int) (n : Nat) (budget : Int) (hP : 2 ≤ P) (hb : 1 ≤ budget) : RInv P n budget ⟨0, List.replicate n 0, false, false, [], 0⟩ := by
 refine ⟨List.length_replicate, fun i h0 h1 => ?_, by show 0 ≤ (0 : Int) ∧ (0 : Int) ≤ budget + 1; omega⟩
 have : rd (List.replicate n 0) i = 0 := by
  unfold rd
  rw [List.getD_eq_getElem?_getD, List.getElem?_replicate]
  split <;> rfl
 show 0 ≤ rd (List.replicate n 0) i ∧ rd (List.replicate n 0) i ≤ P - 1
 omega
/-- The reference's search as newSearch leaves it. -/
theorem new_fin {w W : World} {g F T : Nat} {P : Int} {A1 : Option Addr} {c1 : Nat} {le : List S60} {A2 : Option Addr} {c2 : Nat} {ac : List S62} {budget : Int} {all : Bool} {fs : List Bool} (h : NewSt w W g F T P A1 c1 le.length A2 c2 ac.length budget all fs) (hf : fs.length = le.length) (hle : Kd.C k60 w A1 le.length le) (hac : Kd.C k62 w A2 ac.length ac) (hn : le.length ≤ 48) :
  RFIN w W g T P le.length ac fs budget all A1 A2 (some ⟨F, 0, none⟩) c1 c2 le.length ⟨0, List.replicate le.length 0, false, false, [], 0⟩ ∧ g ≠ T ∧
   (∀ W', Kept W W' (FS g T) → Kd.C k62 W' A2 ac.length ac) ∧ (∀ W', Kept W W' (FS g T) → Kd.C k60 W' A1 le.length le) ∧ (∀ W', Kept W W' (FS g T) → Kd.C Kd.bool W' (some ⟨F, 0, none⟩) fs.length fs) := by
 obtain ⟨p1, p2, p3, ⟨p6, p7, p8⟩, p9⟩ := h
 have hgT := blk_ne p1 p3 (by decide)
 have k34_heap : Kd.Heap k60 := Kd.heap_iso _ (Kd.heap_pair (Kd.heap_int _) (Kd.heap_pair (Kd.heap_int _) (Kd.heap_int _)))
 refine ⟨⟨.slice none 0 0, by simpa [hf] using p1, p3, Kd.R_nil _ _ _ _ _⟩, hgT, fun W' hk => ?_, fun W' hk => ?_, fun W' hk => ?_⟩
 ·refine Kd.C_F k36_heap' hac W' (fun k hlt _ => ?_)
  have hs := p9.size
  exact (hk.2 k (by omega) (fun e => by unfold FS at e; omega)).trans (p9.block k hlt)
 ·refine Kd.C_F k34_heap hle W' (fun k hlt _ => ?_)
  have hs := p9.size
  exact (hk.2 k (by omega) (fun e => by unfold FS at e; omega)).trans (p9.block k hlt)
 ·have hb := blk_kept p2 hk (fun e => by
   rcases e with e | e
   ·exact blk_ne p2 p1 (by decide) e
   ·exact blk_ne p2 p3 (by decide) e)
  exact bools_C hb (by omega)
theorem RFIN.low {w0 w1 W : World} {g T : Nat} {P : Int} {n : Nat} {ac : List S62} {first : List Bool} {budget : Int} {all : Bool} {AE Aa Af : Option Addr} {cE ca cf : Nat} {st : RSt} (h : RFIN w1 W g T P n ac first budget all AE Aa Af cE ca cf st) (hs : w0.heap.size ≤ w1.heap.size) : RFIN w0 W g T P n ac first budget all AE Aa Af cE ca cf st := by
 obtain ⟨vS, h1, h2, h3⟩ := h
 exact ⟨vS, h1, h2, qag h3 hs⟩
def RunPost (w : World) (P : Int) (le : List S60) (ac : List S62) (fs : List Bool) (budget : Int) (all : Bool) (A1 A2 : Option Addr) (c1 c2 : Nat) (code : Int) (st : RSt) (e : Ending) (w' : World) : Prop :=
 ∃ pv : Value, e = .returned (.tuple #[pv, .int .i64 code]) ∧ Below w.heap.size w w' ∧ ((code = 0 ∨ code = 14) → ∃ g T Af cf, pv = .pointer (some ⟨g, 0, none⟩) ∧ RFIN w w' g T P le.length ac fs budget all A1 A2 Af c1 c2 cf st)
set_option maxHeartbeats 4000000 in
set_option maxRecDepth 100000 in
theorem refrun_no (k : Nat) (P : Int) (A1 : Option Addr) (c1 : Nat) (le : List S60) (A2 : Option Addr) (c2 : Nat) (ac : List S62) (budget : Int) (all : Bool) (fs : List Bool) (st : RSt) (w : World) (hr1 : Kd.C k60 w A1 le.length le) (hc1 : le.length ≤ c1) (hr2 : Kd.C k62 w A2 ac.length ac) (hc2 : ac.length ≤ c2) (hk : 600 ≤ k) (hno : okNet P le ac = false ∨ budget < 1 ∨ budget > 1048576) :
  Calls Try.prog 46 #[.agg #[.int .i64 P, .slice A1 le.length c1, .slice A2 ac.length c2], .int .i64 budget, .bool all] w (RunPost w P le ac fs budget all A1 A2 c1 c2 (if okNet P le ac = true then 4 else 1) st) := by
 have hb0 := qc (qaj w.heap.size w) (.cells #[.int .i64 P, .slice A1 le.length c1, .slice A2 ac.length c2] 26)
 have HB0 := qo hb0
 have HCK := qo (fun W h1 h2 => railplanref11_Check.calls k P A1 c1 le A2 c2 ac (okNet P le ac) W h1 hc1 h2 hc2 (refcheck_f P le ac k hk))
 have HR1 := qo hr1
 have HR2 := qo hr2
 have HIN := qo (fun W => railplanref17_in.calls budget 1 1048576 _ W (refin17_f budget 1 1048576))
 clear hb0 hr1 hr2 hc1 hc2 hk
 cases hok : okNet P le ac with
 | false =>
  rw [hok] at HCK
  clear hok hno
  go_enter Try.func46, Try.ntmps46
  go_wp2_with (go_at_call 37; refine (HCK.out _ (qs HR1.out HB0.out) (qs HR2.out HB0.out)).mono ?_; rintro e w1 ⟨rfl, hd⟩)
  go_ret2
  exact ⟨_, rfl, qt HB0.out hd, fun h => absurd h (by simp)⟩
 | true =>
  rw [hok] at HCK
  have hlim : (decide (1 ≤ budget) && decide (budget ≤ 1048576)) = false := by
   rcases hno with h | h | h
   ·rw [hok] at h; exact absurd h (by simp)
   ·rw [qad (by omega)]; rfl
   ·rw [qad (show ¬ budget ≤ 1048576 by omega), Bool.and_false]
  rw [hlim] at HIN
  clear hok hno hlim
  go_enter Try.func46, Try.ntmps46
  go_wp2_with (first | (go_at_call 37; refine (HCK.out _ (qs HR1.out HB0.out) (qs HR2.out HB0.out)).mono ?_; rintro e w1 ⟨rfl, hd⟩; have HB1 := qo (qt HB0.out hd); clear hd) | (go_at_call 62; refine (HIN.out _).mono ?_; rintro e w2 ⟨rfl, hd⟩; obtain ⟨nq, rfl⟩ := hd))
  go_ret2
  exact ⟨_, rfl, qb HB1.out _, fun h => absurd h (by simp)⟩
set_option maxHeartbeats 4000000 in
set_option maxRecDepth 100000 in
theorem refrun_yes (k : Nat) (P : Int) (A1 : Option Addr) (c1 : Nat) (le : List S60) (A2 : Option Addr) (c2 : Nat) (ac : List S62) (budget : Int) (all : Bool) (comp : List Int) (w : World) (hr1 : Kd.C k60 w A1 le.length le) (hc1 : le.length ≤ c1) (hr2 : Kd.C k62 w A2 ac.length ac) (hc2 : ac.length ≤ c2) (hk : 600 ≤ k) (hok : okNet P le ac = true) (hbd : 1 ≤ budget ∧ budget ≤ 1048576) (hcf : railplanref11_Components.f k P le ac = some comp) (hcl : comp.length = le.length) :
  Calls Try.prog 46 #[.agg #[.int .i64 P, .slice A1 le.length c1, .slice A2 ac.length c2], .int .i64 budget, .bool all] w (RunPost w P le ac (newF comp le.length le.length) budget all A1 A2 c1 c2 (rcode (rstF P le ac comp budget all)) (rstF P le ac comp budget all)) := by
 obtain ⟨hP, hn, hm, hgood⟩ := okNet_good hok
 have hb0 := qc (qaj w.heap.size w) (.cells #[.int .i64 P, .slice A1 le.length c1, .slice A2 ac.length c2] 26)
 have hnb := blk_new w (.cells #[.int .i64 P, .slice A1 le.length c1, .slice A2 ac.length c2] 26)
 have HB0 := qo hb0
 have HNB := qo hnb
 have HCK := qo (fun W h1 h2 => railplanref11_Check.calls k P A1 c1 le A2 c2 ac true W h1 hc1 h2 hc2 (by rw [refcheck_f P le ac k hk, hok]))
 have HR1 := qo hr1
 have HR2 := qo hr2
 have HIN := qo (fun W => railplanref17_in.calls budget 1 1048576 true W (by rw [refin17_f budget 1 1048576, qac hbd.1, qac hbd.2]; rfl))
 have HNEW := qo (fun (W : World) (hW : Below w.heap.size w W) => new_calls P A1 c1 le A2 c2 ac budget all comp W hn hcl (fun W2 h2 => railplanref11_Components.calls k P A1 c1 le A2 c2 ac comp W2 (qs (qs hr1 hW) h2) hc1 (qs (qs hr2 hW) h2) hc2 hcf))
 have HVIS := qo (fun (W0 W : World) (g F T : Nat) (hW0 : Below w.heap.size w W0) (hp : NewSt W0 W g F T P A1 c1 le.length A2 c2 ac.length budget all (newF comp le.length le.length)) => by
  obtain ⟨f1, f2, f3, f4, f5⟩ := new_fin hp (newF_len _ _ _) (qs hr1 hW0) (qs hr2 hW0) hn
  exact visit_calls W0 g T P le ac _ budget all A1 A2 (some ⟨F, 0, none⟩) c1 c2 le.length k hok hk (newF_len _ _ _) hc2 hc1 hbd f2 hp.2.2.2.1.1 hp.2.2.2.1.2.2 (le.length + 1) 0 _ W (by omega) (by omega) (rinv_start P le.length budget hP.1 hbd.1) (by show (0 : Int) ≤ budget; omega) f1 hp.2.2.2.2 f3 f4 f5)
 obtain ⟨r, hr⟩ : ∃ r, r = visitF P le.length ac (newF comp le.length le.length) budget all (le.length + 1) 0 ⟨0, List.replicate le.length 0, false, false, [], 0⟩ := ⟨_, rfl⟩
 have hst : rstF P le ac comp budget all = r.1 := by unfold rstF; rw [← hr]
 rw [hst]
 rw [← hr] at HVIS
 obtain ⟨st, go⟩ := r
 clear hst hr hb0 hnb hr1 hr2 hc1 hc2 hk hok hcf hcl hgood hbd
 obtain ⟨used, ts, over, found, res, best⟩ := st
 have ARM : True := trivial
 cases over with
 | true =>
  go_enter Try.func46, Try.ntmps46
  go_wp2_with (first | (go_at_call 37; refine (HCK.out _ (qs HR1.out HB0.out) (qs HR2.out HB0.out)).mono ?_; rintro e w1 ⟨rfl, hd⟩; have hnb1 := qaa HNB.out hd; obtain ⟨k0, k1, k2⟩ : w1.cell? ⟨w.heap.size, 0, none⟩ = some (.int .i64 P) ∧ w1.cell? ⟨w.heap.size, 1, none⟩ = some (.slice A1 le.length c1) ∧ w1.cell? ⟨w.heap.size, 2, none⟩ = some (.slice A2 ac.length c2) := ⟨(qe hnb1 0).trans rfl, (qe hnb1 1).trans rfl, (qe hnb1 2).trans rfl⟩; have HB1 := qo (qt HB0.out hd); clear hd hnb1) | (go_at_call 62; refine (HIN.out _).mono ?_; rintro e w1' ⟨rfl, hd⟩; obtain ⟨nq, rfl⟩ := hd; have HB1' := qo (qb HB1.out nq)) | (go_at_call 63; refine (HNEW.out _ HB1'.out).mono ?_; rintro e w2 ⟨g, F, T, rfl, hp⟩; have HE := qo (HVIS.out _ _ g F T HB1'.out hp); clear hp k0 k1 k2) | (go_at_call 64; refine HE.out.mono ?_; rintro e w3 ⟨rfl, hfin, hkept, hbel⟩; have HF3 := qo (RFIN.low hfin HB1'.out.size); obtain ⟨vS, q1, q2, q3⟩ := hfin; have c6 := (qe q1 6).trans rfl; have c8 := (qe q1 8).trans rfl; have HB3 := qo (qt HB1'.out hbel); clear q1 q2 q3 hkept hbel))
  go_ret2
  exact ⟨_, rfl, HB3.out, fun h => absurd h (by simp [rcode])⟩
 | false =>
  cases found with
  | true =>
   go_enter Try.func46, Try.ntmps46
   go_wp2_with (first | (go_at_call 37; refine (HCK.out _ (qs HR1.out HB0.out) (qs HR2.out HB0.out)).mono ?_; rintro e w1 ⟨rfl, hd⟩; have hnb1 := qaa HNB.out hd; obtain ⟨k0, k1, k2⟩ : w1.cell? ⟨w.heap.size, 0, none⟩ = some (.int .i64 P) ∧ w1.cell? ⟨w.heap.size, 1, none⟩ = some (.slice A1 le.length c1) ∧ w1.cell? ⟨w.heap.size, 2, none⟩ = some (.slice A2 ac.length c2) := ⟨(qe hnb1 0).trans rfl, (qe hnb1 1).trans rfl, (qe hnb1 2).trans rfl⟩; have HB1 := qo (qt HB0.out hd); clear hd hnb1) | (go_at_call 62; refine (HIN.out _).mono ?_; rintro e w1' ⟨rfl, hd⟩; obtain ⟨nq, rfl⟩ := hd; have HB1' := qo (qb HB1.out nq)) | (go_at_call 63; refine (HNEW.out _ HB1'.out).mono ?_; rintro e w2 ⟨g, F, T, rfl, hp⟩; have HE := qo (HVIS.out _ _ g F T HB1'.out hp); clear hp k0 k1 k2) | (go_at_call 64; refine HE.out.mono ?_; rintro e w3 ⟨rfl, hfin, hkept, hbel⟩; have HF3 := qo (RFIN.low hfin HB1'.out.size); obtain ⟨vS, q1, q2, q3⟩ := hfin; have c6 := (qe q1 6).trans rfl; have c8 := (qe q1 8).trans rfl; have HB3 := qo (qt HB1'.out hbel); clear q1 q2 q3 hkept hbel))
   go_ret2
   exact ⟨_, rfl, HB3.out, fun _ => ⟨g, T, _, _, rfl, HF3.out⟩⟩
  | false =>
   go_enter Try.func46, Try.ntmps46
   go_wp2_with (first | (go_at_call 37; refine (HCK.out _ (qs HR1.out HB0.out) (qs HR2.out HB0.out)).mono ?_; rintro e w1 ⟨rfl, hd⟩; have hnb1 := qaa HNB.out hd; obtain ⟨k0, k1, k2⟩ : w1.cell? ⟨w.heap.size, 0, none⟩ = some (.int .i64 P) ∧ w1.cell? ⟨w.heap.size, 1, none⟩ = some (.slice A1 le.length c1) ∧ w1.cell? ⟨w.heap.size, 2, none⟩ = some (.slice A2 ac.length c2) := ⟨(qe hnb1 0).trans rfl, (qe hnb1 1).trans rfl, (qe hnb1 2).trans rfl⟩; have HB1 := qo (qt HB0.out hd); clear hd hnb1) | (go_at_call 62; refine (HIN.out _).mono ?_; rintro e w1' ⟨rfl, hd⟩; obtain ⟨nq, rfl⟩ := hd; have HB1' := qo (qb HB1.out nq)) | (go_at_call 63; refine (HNEW.out _ HB1'.out).mono ?_; rintro e w2 ⟨g, F, T, rfl, hp⟩; have HE := qo (HVIS.out _ _ g F T HB1'.out hp); clear hp k0 k1 k2) | (go_at_call 64; refine HE.out.mono ?_; rintro e w3 ⟨rfl, hfin, hkept, hbel⟩; have HF3 := qo (RFIN.low hfin HB1'.out.size); obtain ⟨vS, q1, q2, q3⟩ := hfin; have c6 := (qe q1 6).trans rfl; have c8 := (qe q1 8).trans rfl; have HB3 := qo (qt HB1'.out hbel); clear q1 q2 q3 hkept hbel))
   go_ret2
   exact ⟨_, rfl, HB3.out, fun _ => ⟨g, T, _, _, rfl, HF3.out⟩⟩

/-! ### railplanref17_Feasible: function 28 -/
/-- What Feasible makes of the reference's state. -/
def routF (st : RSt) : List Int × Int × Int := if st.over = true then ([], 0, 15) else if st.found = true then (st.res, st.used, 0) else ([], st.used, 14)
def railplanref17_Feasible.f (k : Nat) (P : Int) (le : List S60) (ac : List S62) (budget : Int) : Option (List Int × Int × Int) :=
 if k < 600 then none else if okNet P le ac = true then (if 1 ≤ budget ∧ budget ≤ 1048576 then (railplanref11_Components.f k P le ac).bind fun comp => if comp.length = le.length then some (routF (rstF P le ac comp budget false)) else none else some (([] : List Int), 0, 4)) else some (([] : List Int), 0, 1)
theorem railplanref17_Feasible.mono : ∀ P le ac budget k, LeO (railplanref17_Feasible.f k P le ac budget) (railplanref17_Feasible.f (k + 1) P le ac budget) := by
 intro P le ac budget k
 unfold railplanref17_Feasible.f
 by_cases hk : k < 600
 ·rw [if_pos hk]; exact LeO.none _
 ·rw [if_neg hk, if_neg (show ¬ k + 1 < 600 by omega)]
  refine LeO.ite (LeO.ite ?_ (LeO.refl _)) (LeO.refl _)
  exact LeO.bind (railplanref11_Components.mono _ _ _ _) (fun _ => LeO.refl _)
set_option maxHeartbeats 4000000 in
set_option maxRecDepth 100000 in
theorem railplanref17_Feasible.calls (k : Nat) (P : Int) (A1 : Option Addr) (c1 : Nat) (le : List S60) (A2 : Option Addr) (c2 : Nat) (ac : List S62) (budget : Int) (r1 : List Int) (r2 r3 : Int) (w : World) (hr1 : Kd.C k60 w A1 le.length le) (hc1 : le.length ≤ c1) (hr2 : Kd.C k62 w A2 ac.length ac) (hc2 : ac.length ≤ c2) (h : railplanref17_Feasible.f k P le ac budget = some (r1, r2, r3)) :
  Calls Try.prog 28 #[.agg #[.int .i64 P, .slice A1 le.length c1, .slice A2 ac.length c2], .int .i64 budget] w fun e w' => ∃ v0_ : Value, e = .returned (.tuple #[v0_, .int .i64 r2, .int .i64 r3]) ∧ Kd.R (Kd.int .i64) 3 w' w.heap.size (fun _ => True) v0_ r1 ∧ Below w.heap.size w w' := by
 have hb0 := qc (qaj w.heap.size w) (.cells #[.int .i64 P, .slice A1 le.length c1, .slice A2 ac.length c2] 26)
 have HB0 := qo hb0
 have hq1 := qs hr1 hb0
 have hq2 := qs hr2 hb0
 clear hb0
 unfold railplanref17_Feasible.f at h
 by_cases hk : k < 600
 ·rw [if_pos hk] at h; exact absurd h (by simp)
 rw [if_neg hk] at h
 by_cases hok : okNet P le ac = true
 ·rw [if_pos hok] at h
  by_cases hbd : 1 ≤ budget ∧ budget ≤ 1048576
  ·rw [if_pos hbd] at h
   cases hcf : railplanref11_Components.f k P le ac with
   | none => rw [hcf] at h; exact absurd h (by simp)
   | some comp =>
    rw [hcf] at h
    have h' : (if comp.length = le.length then some (routF (rstF P le ac comp budget false)) else none) = some (r1, r2, r3) := h
    clear h
    by_cases hcl : comp.length = le.length
    ·rw [if_pos hcl] at h'
     have hout := Option.some.inj h'
     have HRUN := qo (refrun_yes k P A1 c1 le A2 c2 ac budget false comp _ hq1 hc1 hq2 hc2 (by omega) hok hbd hcf hcl)
     generalize rstF P le ac comp budget false = st at hout HRUN
     generalize newF comp le.length le.length = fs at HRUN
     obtain ⟨used, ts, over, found, res, best⟩ := st
     clear h' hcf hcl hok hbd hk hr1 hr2 hq1 hq2 hc1 hc2
     cases over with
     | true =>
      obtain ⟨rfl, rfl, rfl⟩ : ([] : List Int) = r1 ∧ (0 : Int) = r2 ∧ (15 : Int) = r3 := by simpa [routF] using hout
      clear hout
      go_enter Try.func28, Try.ntmps28
      go_wp2_with (go_at_call 46; refine HRUN.out.mono ?_; rintro e w1 ⟨pv, rfl, hb, hx⟩; rw [show rcode ⟨used, ts, true, found, res, best⟩ = 15 from rfl]; have HB1 := qo (qt HB0.out hb); clear hb hx)
      go_ret3
      exact ⟨_, rfl, Kd.R_nil _ _ _ _ _, HB1.out⟩
     | false =>
      cases found with
      | true =>
       obtain ⟨rfl, rfl, rfl⟩ : res = r1 ∧ used = r2 ∧ (0 : Int) = r3 := by simpa [routF] using hout
       clear hout
       go_enter Try.func28, Try.ntmps28
       go_wp2_with (go_at_call 46; refine HRUN.out.mono ?_; rintro e w1 ⟨pv, rfl, hb, hx⟩; rw [show rcode ⟨used, ts, false, true, res, best⟩ = 0 from rfl] at hx ⊢; obtain ⟨g, T, Af, cf, rfl, hf⟩ := hx (.inl rfl); obtain ⟨vS, q1, q2, q3⟩ := hf; obtain ⟨As, cs, rfl⟩ := qak q3; have c5 := (qe q1 5).trans rfl; have c10 := (qe q1 10).trans rfl; have HR3 := qo q3; have HB1 := qo (qt HB0.out hb); clear hb hx q1 q2 q3)
       repeat (go_quiet (fail); try go_wp2_with fail)
       go_ret3
       exact ⟨_, rfl, qy (qag (qg HR3.out _) HB0.out.size) (fun _ _ => trivial), qb HB1.out _⟩
      | false =>
       obtain ⟨rfl, rfl, rfl⟩ : ([] : List Int) = r1 ∧ used = r2 ∧ (14 : Int) = r3 := by simpa [routF] using hout
       clear hout
       go_enter Try.func28, Try.ntmps28
       go_wp2_with (go_at_call 46; refine HRUN.out.mono ?_; rintro e w1 ⟨pv, rfl, hb, hx⟩; rw [show rcode ⟨used, ts, false, false, res, best⟩ = 14 from rfl] at hx ⊢; obtain ⟨g, T, Af, cf, rfl, hf⟩ := hx (.inr rfl); obtain ⟨vS, q1, q2, q3⟩ := hf; obtain ⟨As, cs, rfl⟩ := qak q3; have c5 := (qe q1 5).trans rfl; have c10 := (qe q1 10).trans rfl; have HR3 := qo q3; have HB1 := qo (qt HB0.out hb); clear hb hx q1 q2 q3)
       repeat (go_quiet (fail); try go_wp2_with fail)
       go_ret3
       exact ⟨_, rfl, Kd.R_nil _ _ _ _ _, qb HB1.out _⟩
    ·rw [if_neg hcl] at h'; exact absurd h' (by simp)
  ·rw [if_neg hbd] at h
   have h2 := Option.some.inj h
   simp only [Prod.mk.injEq] at h2
   obtain ⟨rfl, rfl, rfl⟩ := h2
   have HRUN := qo (refrun_no k P A1 c1 le A2 c2 ac budget false [] ⟨0, [], false, false, [], 0⟩ _ hq1 hc1 hq2 hc2 (by omega) (.inr (by omega)))
   rw [if_pos hok] at HRUN
   clear h hok hbd hk hr1 hr2 hq1 hq2 hc1 hc2
   go_enter Try.func28, Try.ntmps28
   go_wp2_with (go_at_call 46; refine HRUN.out.mono ?_; rintro e w1 ⟨pv, rfl, hb, hx⟩; have HB1 := qo (qt HB0.out hb); clear hb hx)
   go_ret3
   exact ⟨_, rfl, Kd.R_nil _ _ _ _ _, HB1.out⟩
 ·rw [if_neg hok] at h
  have h2 := Option.some.inj h
  simp only [Prod.mk.injEq] at h2
  obtain ⟨rfl, rfl, rfl⟩ := h2
  have HRUN := qo (refrun_no k P A1 c1 le A2 c2 ac budget false [] ⟨0, [], false, false, [], 0⟩ _ hq1 hc1 hq2 hc2 (by omega) (.inl (by simpa using hok)))
  rw [if_neg hok] at HRUN
  clear h hok hk hr1 hr2 hq1 hq2 hc1 hc2
  go_enter Try.func28, Try.ntmps28
  go_wp2_with (go_at_call 46; refine HRUN.out.mono ?_; rintro e w1 ⟨pv, rfl, hb, hx⟩; have HB1 := qo (qt HB0.out hb); clear hb hx)
  go_ret3
  exact ⟨_, rfl, Kd.R_nil _ _ _ _ _, HB1.out⟩

end Go.Proofs.Ytpioelilfhkfdaa.XAll
