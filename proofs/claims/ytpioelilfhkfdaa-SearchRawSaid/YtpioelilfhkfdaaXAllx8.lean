-- This session's own text, written by wip/tools/xall.py after the form of the kit's print.
import Derived.Test.YtpioelilfhkfdaaXAllx0
import Derived.Test.YtpioelilfhkfdaaXAllx1
import Derived.Test.YtpioelilfhkfdaaXAllx2
import Derived.Test.YtpioelilfhkfdaaXAllx3
import Derived.Test.YtpioelilfhkfdaaXAllx4
import Derived.Test.YtpioelilfhkfdaaXAllx6
import Derived.Test.YtpioelilfhkfdaaXAllx7
namespace Go.Proofs.Ytpioelilfhkfdaa.XAll
open Go.RowKit Go.Proofs.YtpioelilfhkfdaaW.PrintWords Go.Proofs.YtpioelilfhkfdaaW.PrintLast Go.Proofs.YtpioelilfhkfdaaW.PrintMore
attribute [local go_sem] max2_int min2_int max_two min_two max_three min_three max_four min_four   -- for this text's walks alone
set_option linter.unusedVariables false
set_option linter.unusedSimpArgs false

/-! ### search_run: function 36 -/
theorem k36_heap' : Kd.Heap k62 := Kd.heap_iso _ (Kd.heap_pair (Kd.heap_int _) (Kd.heap_pair (Kd.heap_int _) (Kd.heap_pair (Kd.heap_int _) (Kd.heap_pair (Kd.heap_int _) (Kd.heap_pair (Kd.heap_int _) (Kd.heap_int _))))))
theorem bools_C {w : World} {B : Nat} {bs : List Bool} (h : w.heap[B]? = some (.cells (bs.map Value.bool).toArray 4 (0, 0))) (hl : bs.length ≤ 9223372036854775807) : Kd.C Kd.bool w (some ⟨B, 0, none⟩) bs.length bs :=
 ⟨rfl, hl, fun _ => ⟨⟨B, 0, none⟩, rfl, fun j p hj => ⟨[.bool p], rfl, rfl, fun i u hu => by
  obtain ⟨hi, e⟩ := List.getElem?_eq_some_iff.1 hu
  have hi0 : i = 0 := by simp at hi; exact hi
  subst hi0
  simp at e
  subst e
  rw [add_plain, qe h]
  simp [Kd.bool, Kd.scalar, hj]⟩⟩⟩
theorem okNet_good {P : Int} {ev : List S60} {ac : List S62} (h : okNet P ev ac = true) : (2 ≤ P ∧ P ≤ 7200) ∧ ev.length ≤ 48 ∧ ac.length ≤ 512 ∧ ∀ a ∈ ac, GoodAct P ev.length a := by
 unfold okNet at h
 rw [Bool.and_eq_true, decide_eq_true_eq] at h
 obtain ⟨⟨h1, h2, h3, h4⟩, h5⟩ := h
 refine ⟨⟨h1, h2⟩, by omega, by omega, fun a ha => ?_⟩
 have h6 : badAct P ((ev.length : Int) - 1) a = false := by
  cases hb : badAct P ((ev.length : Int) - 1) a with
  | false => rfl
  | true =>
   have : ac.any (badAct P ((ev.length : Int) - 1)) = true := List.any_eq_true.2 ⟨a, ha, hb⟩
   rw [this] at h5
   exact absurd h5 (by decide)
 unfold badAct at h6
 simp at h6
 exact ⟨by omega, by omega, by omega, by omega, by omega⟩
/-- The finder as prepare leaves it. -/
theorem prep_fin {w W : World} {g F R T : Nat} {P : Int} {A1 : Option Addr} {c1 : Nat} {n : Nat} {A2 : Option Addr} {c2 : Nat} {ac : List S62} {budget : Int} {all : Bool} {fs : List Bool} {rdy : List (List Int)} (h : PrepSt w W g F R T P A1 c1 n A2 c2 ac.length budget all fs rdy) (hf : fs.length = n) (hr : rdy.length = n) (hac : Kd.C k62 w A2 ac.length ac) (hn : n ≤ 48) :
  FIN w W g T P n ac fs rdy all A1 A2 (some ⟨F, 0, none⟩) (some ⟨R, 0, none⟩) c1 c2 n n ⟨budget, List.replicate n 0, false, false, [], 0⟩ ∧ g ≠ T ∧
   (∀ W', Kept W W' (FS g T) → Kd.C k62 W' A2 ac.length ac) ∧ (∀ W', Kept W W' (FS g T) → Kd.C Kd.bool W' (some ⟨F, 0, none⟩) fs.length fs) ∧ (∀ W', Kept W W' (FS g T) → Kd.C (Kd.slice 3 (Kd.int .i64)) W' (some ⟨R, 0, none⟩) rdy.length rdy) := by
 obtain ⟨p1, p2, p3, p4, p5, ⟨p6, p7, p8⟩, p9⟩ := h
 have hgT := blk_ne p1 p3 (by decide)
 refine ⟨⟨.slice none 0 0, by simpa [hf, hr] using p1, p3, Kd.R_nil _ _ _ _ _⟩, hgT, fun W' hk => ?_, fun W' hk => ?_, fun W' hk => ?_⟩
 ·refine Kd.C_F k36_heap' hac W' (fun k hlt _ => ?_)
  have hs := p9.size
  exact (hk.2 k (by omega) (fun e => by unfold FS at e; omega)).trans (p9.block k hlt)
 ·have hb := blk_kept p2 hk (fun e => by
   rcases e with e | e
   ·exact blk_ne p2 p1 (by decide) e
   ·exact blk_ne p2 p3 (by decide) e)
  exact bools_C hb (by omega)
 ·have hS := Kd.S_kept p4 hk (fun k ho e => by
   rcases e with e | e
   ·exact ho.1 e
   ·exact ho.2.2 e)
  rw [hr]
  have := (Kd.S_reads' hS).2.2
  rwa [hr] at this
def stF (P : Int) (l1 : List S60) (l2 : List S62) (comp : List Int) (budget : Int) (all : Bool) : St :=
 extF P l1.length l2 (fstep comp l1.length l1.length).1 (rstep l2 l1.length l2.length).1 all (l1.length + 1) 0 (rstep l2 l1.length l2.length).2 ⟨budget, List.replicate l1.length 0, false, false, [], 0⟩
def outF (budget : Int) (st : St) : List Int × Int × Int × Int :=
 if st.broken = true then ([], 0, 0, 15) else if st.found = true then (st.res, st.cost, wrap64 (budget - st.left), 0) else ([], 0, wrap64 (budget - st.left), 14)
/-- What run returns. -/
def search_run.f (k : Nat) (P : Int) (l1 : List S60) (l2 : List S62) (budget : Int) (all : Bool) : Option (List Int × Int × Int × Int) :=
 if okNet P l1 l2 = true then (if 1 ≤ budget ∧ budget ≤ 1048576 then (compF k l1.length l2).bind fun comp => if comp.length = l1.length then some (outF budget (stF P l1 l2 comp budget all)) else none else some (([] : List Int), 0, 0, 4)) else some (([] : List Int), 0, 0, 1)
theorem rstep_mem (ac : List S62) (n : Nat) : ∀ (i : Nat) (k : Int), ∀ x ∈ rdL (rstep ac n i).1 k, 0 ≤ x ∧ x < (i : Int)
 | 0, k => by
  intro x hx
  have h0 : rdL (rstep ac n 0).1 k = [] := by
   show (List.replicate n ([] : List Int)).getD k.toNat [] = []
   rw [List.getD_eq_getElem?_getD, List.getElem?_replicate]
   split <;> rfl
  rw [h0] at hx
  exact absurd hx (by simp)
 | i + 1, k => by
  intro x hx
  have h1 := rstep_mem ac n i (late (rd_T62 ac (i : Int)))
  have h2 := rstep_mem ac n i k
  have e : ∀ (xs : List (List Int)) (y : List Int) (a b : Nat), (xs.set a y).getD b [] = y ∨ (xs.set a y).getD b [] = xs.getD b [] ∨ (xs.set a y).getD b [] = [] := fun xs y a b => by
   rw [List.getD_eq_getElem?_getD, List.getElem?_set]
   split
   ·split
    ·exact .inl rfl
    ·exact .inr (.inr rfl)
   ·exact .inr (.inl (List.getD_eq_getElem?_getD ..).symm)
  have hx' : x ∈ ((rstep ac n i).1.set (late (rd_T62 ac (i : Int))).toNat (rdL (rstep ac n i).1 (late (rd_T62 ac (i : Int))) ++ [(i : Int)])).getD k.toNat [] := hx
  rcases e (rstep ac n i).1 (rdL (rstep ac n i).1 (late (rd_T62 ac (i : Int))) ++ [(i : Int)]) (late (rd_T62 ac (i : Int))).toNat k.toNat with h | h | h
  ·rw [h] at hx'
   rcases List.mem_append.1 hx' with h3 | h3
   ·have := h1 x h3; omega
   ·rw [List.mem_singleton.1 h3]; omega
  ·rw [h] at hx'
   have := h2 x hx'; omega
  ·rw [h] at hx'
   exact absurd hx' (by simp)
theorem inv_start (n : Nat) (budget : Int) (hb : 1 ≤ budget ∧ budget ≤ 1048576) : Inv n ⟨budget, List.replicate n 0, false, false, [], 0⟩ := by
 refine ⟨List.length_replicate, fun i h0 h1 => ?_, by show 0 ≤ budget ∧ budget ≤ 1048576; omega⟩
 show 0 ≤ rd (List.replicate n 0) i ∧ rd (List.replicate n 0) i ≤ 7200
 have : rd (List.replicate n 0) i = 0 := by
  unfold rd
  rw [List.getD_eq_getElem?_getD, List.getElem?_replicate]
  split <;> rfl
 omega
theorem mergeLoop_mono (k : Nat) (ac : List S62) : ∀ (d i : Nat) (g : List Int), LeO (mergeLoop k ac d i g) (mergeLoop (k + 1) ac d i g)
 | 0, _, _ => LeO.refl _
 | d + 1, i, g => by
  unfold mergeLoop
  exact LeO.bind (cycles_groups_merge.mono _ _ _ _) (fun _ => mergeLoop_mono k ac d (i + 1) _)
theorem numLoop_mono (k : Nat) : ∀ (d i : Nat) (g dn out : List Int), LeO (numLoop k d i g dn out) (numLoop (k + 1) d i g dn out)
 | 0, _, _, _, _ => LeO.refl _
 | d + 1, i, g, dn, out => by
  unfold numLoop
  exact LeO.bind (cycles_groups_find.mono _ _ _) (fun _ => numLoop_mono k d (i + 1) _ _ _)
theorem compF_mono (k n : Nat) (ac : List S62) : LeO (compF k n ac) (compF (k + 1) n ac) := by
 unfold compF
 refine LeO.bind (cycles_alone.mono _ _) (fun g => ?_)
 refine LeO.ite ?_ (LeO.refl _)
 exact LeO.bind (mergeLoop_mono k ac _ _ _) (fun _ => numLoop_mono k _ _ _ _ _)
theorem search_run.mono : ∀ P l1 l2 budget all k, LeO (search_run.f k P l1 l2 budget all) (search_run.f (k + 1) P l1 l2 budget all) := by
 intro P l1 l2 budget all k
 unfold search_run.f
 refine LeO.ite (LeO.ite ?_ (LeO.refl _)) (LeO.refl _)
 exact LeO.bind (compF_mono k _ _) (fun _ => LeO.refl _)
theorem results_tmp4 {fn : Func} {t u v x : Tmp} (h : fn.results = #[.tmp t, .tmp u, .tmp v, .tmp x]) (tmps : Array Value) (P : Program) (w : World) :
  (results fn tmps).run P w = .ok (.tuple #[tmps.getD t undef, tmps.getD u undef, tmps.getD v undef, tmps.getD x undef]) w := by
 simp [results, h]
set_option maxHeartbeats 4000000 in
set_option maxRecDepth 100000 in
theorem search_run.calls (k : Nat) (P : Int) (A1 : Option Addr) (c1 : Nat) (l1 : List S60) (A2 : Option Addr) (c2 : Nat) (l2 : List S62) (budget : Int) (all : Bool) (r1 : List Int) (r2 r3 r4 : Int) (w : World) (hr1 : Kd.C k60 w A1 l1.length l1) (hc1 : l1.length ≤ c1) (hr2 : Kd.C k62 w A2 l2.length l2) (hc2 : l2.length ≤ c2) (h : search_run.f k P l1 l2 budget all = some (r1, r2, r3, r4)) :
  Calls Try.prog 36 #[.agg #[.int .i64 P, .slice A1 l1.length c1, .slice A2 l2.length c2], .int .i64 budget, .bool all] w fun e w' => ∃ v0 : Value, e = .returned (.tuple #[v0, .int .i64 r2, .int .i64 r3, .int .i64 r4]) ∧ Kd.R (Kd.int .i64) 3 w' w.heap.size (fun _ => True) v0 r1 ∧ Below w.heap.size w w' := by
 have hb0 := qc (qaj w.heap.size w) (.cells #[.int .i64 P, .slice A1 l1.length c1, .slice A2 l2.length c2] 26)
 have hnb := blk_new w (.cells #[.int .i64 P, .slice A1 l1.length c1, .slice A2 l2.length c2] 26)
 have HB0 := qo hb0
 have HNB := qo hnb
 have HR1 := qo hr1
 have HR2 := qo hr2
 have HCK := qo (fun W h1 h2 q hq => network_Check.calls P A1 c1 l1 A2 c2 l2 q W h1 hc1 h2 hc2 hq)
 clear hb0 hnb
 unfold search_run.f at h
 by_cases hok : okNet P l1 l2 = true
 ·rw [if_pos hok] at h
  have HQ : Aside0 (network_Check.f P l1 l2 = some true) := ⟨by unfold network_Check.f; rw [hok]⟩
  by_cases hbd : 1 ≤ budget ∧ budget ≤ 1048576
  ·rw [if_pos hbd] at h
   cases hcf : compF k l1.length l2 with
   | none => rw [hcf] at h; exact absurd h (by simp)
   | some comp =>
    rw [hcf] at h
    have h' : (if comp.length = l1.length then some (outF budget (stF P l1 l2 comp budget all)) else none) = some (r1, r2, r3, r4) := h
    clear h
    by_cases hcl : comp.length = l1.length
    ·rw [if_pos hcl] at h'
     have hout := Option.some.inj h'
     obtain ⟨hP, hn, hm, hgood⟩ := okNet_good hok
     obtain ⟨hb1, hb2⟩ := hbd
     have hbl : decide (budget < 1) = false := qad (by omega)
     have hbg : decide (budget > 1048576) = false := qad (by omega)
     have HPREP := qo (fun (W : World) (hW : Below w.heap.size w W) => prep1 P A1 c1 l1 A2 c2 l2 budget all comp W hn hm (qs hr2 hW) hgood hcl (fun W2 h2 => comp_calls k P A1 c1 l1 A2 c2 l2 comp W2 (qs (qs hr1 hW) h2) hc1 (qs (qs hr2 hW) h2) hc2 hok hn hcf))
     have HEXT := qo (fun (W0 W : World) (g F R T : Nat) (hW0 : Below w.heap.size w W0) (hp : PrepSt W0 W g F R T P A1 c1 l1.length A2 c2 l2.length budget all (fstep comp l1.length l1.length).1 (rstep l2 l1.length l2.length).1) => by
      obtain ⟨f1, f2, f3, f4, f5⟩ := prep_fin hp (fstep_len _ _ _) (rstep_len _ _ _) (qs hr2 hW0) hn
      exact ext_calls W0 g T P l1.length l2 _ _ all A1 A2 _ _ c1 c2 l1.length l1.length hP hn hgood (fstep_len _ _ _) (rstep_len _ _ _) (fun e _ x hx => rstep_mem l2 l1.length l2.length _ x hx) (fun e _ => Nat.le_trans (rstep_row _ _ _ _) hm) f2 hp.2.2.2.2.2.1.1 hp.2.2.2.2.2.1.2.2 (l1.length + 1) 0 (rstep l2 l1.length l2.length).2 _ W (by omega) (by omega) (by have := rstep_bd (P := P) (n := l1.length) hgood l2.length (Nat.le_refl _); omega) (inv_start _ _ ⟨hb1, hb2⟩) f1 hp.2.2.2.2.2.2 f3 f4 f5)
     obtain ⟨st, hst⟩ : ∃ st, st = stF P l1 l2 comp budget all := ⟨_, rfl⟩
     rw [← hst] at hout
     have HST := qo hst
     clear h' hok hcf hcl hgood hr1 hr2 hc1 hc2 hst
     obtain ⟨left, ts, broken, found, res, cost⟩ := st
     cases broken with
     | true =>
      obtain ⟨rfl, rfl, rfl, rfl⟩ : ([] : List Int) = r1 ∧ (0 : Int) = r2 ∧ (0 : Int) = r3 ∧ (15 : Int) = r4 := by simpa [outF] using hout
      clear hout
      go_enter Try.func36, Try.ntmps36
      go_wp2_with (first | (go_at_call 57; refine (HCK.out _ (qs HR1.out HB0.out) (qs HR2.out HB0.out) _ HQ.out).mono ?_; rintro e w1 ⟨rfl, hd⟩; have hnb1 := qaa HNB.out hd; obtain ⟨k0, k1, k2⟩ : w1.cell? ⟨w.heap.size, 0, none⟩ = some (.int .i64 P) ∧ w1.cell? ⟨w.heap.size, 1, none⟩ = some (.slice A1 l1.length c1) ∧ w1.cell? ⟨w.heap.size, 2, none⟩ = some (.slice A2 l2.length c2) := ⟨(qe hnb1 0).trans rfl, (qe hnb1 1).trans rfl, (qe hnb1 2).trans rfl⟩; have HB1 := qo (qt HB0.out hd); clear hd hnb1) | (go_at_call 58; refine (HPREP.out _ HB1.out).mono ?_; rintro e w2 ⟨g, F, R, T, rfl, hp⟩; have HE := qo (HEXT.out _ _ g F R T HB1.out hp); clear hp k0 k1 k2) | (go_at_call 59; refine HE.out.mono ?_; rintro e w3 ⟨rfl, hfin, hkept, hbel⟩; rw [show extF P l1.length l2 (fstep comp l1.length l1.length).1 (rstep l2 l1.length l2.length).1 all (l1.length + 1) 0 (rstep l2 l1.length l2.length).2 ⟨budget, List.replicate l1.length 0, false, false, [], 0⟩ = _ from HST.out.symm] at hfin; obtain ⟨vS, q1, q2, q3⟩ := hfin; obtain ⟨As, cs, rfl⟩ := qak q3; have c6 := (qe q1 6).trans rfl; have c8 := (qe q1 8).trans rfl; have c9 := (qe q1 9).trans rfl; have c10 := (qe q1 10).trans rfl; have c11 := (qe q1 11).trans rfl; have HRS := qo q3; have HB3 := qo (qt HB1.out hbel); clear q1 q2 q3 hkept hbel))
      ((try simp only [Exit.inBlock, Exit.then]); refine bodyPost_ret (results_tmp4 rfl _ _ _) rfl ?_)
      exact ⟨_, rfl, Kd.R_nil _ _ _ _ _, HB3.out⟩
     | false =>
      cases found with
      | true =>
       obtain ⟨rfl, rfl, rfl, rfl⟩ : res = r1 ∧ cost = r2 ∧ wrap64 (budget - left) = r3 ∧ (0 : Int) = r4 := by simpa [outF] using hout
       clear hout
       go_enter Try.func36, Try.ntmps36
       go_wp2_with (first | (go_at_call 57; refine (HCK.out _ (qs HR1.out HB0.out) (qs HR2.out HB0.out) _ HQ.out).mono ?_; rintro e w1 ⟨rfl, hd⟩; have hnb1 := qaa HNB.out hd; obtain ⟨k0, k1, k2⟩ : w1.cell? ⟨w.heap.size, 0, none⟩ = some (.int .i64 P) ∧ w1.cell? ⟨w.heap.size, 1, none⟩ = some (.slice A1 l1.length c1) ∧ w1.cell? ⟨w.heap.size, 2, none⟩ = some (.slice A2 l2.length c2) := ⟨(qe hnb1 0).trans rfl, (qe hnb1 1).trans rfl, (qe hnb1 2).trans rfl⟩; have HB1 := qo (qt HB0.out hd); clear hd hnb1) | (go_at_call 58; refine (HPREP.out _ HB1.out).mono ?_; rintro e w2 ⟨g, F, R, T, rfl, hp⟩; have HE := qo (HEXT.out _ _ g F R T HB1.out hp); clear hp k0 k1 k2) | (go_at_call 59; refine HE.out.mono ?_; rintro e w3 ⟨rfl, hfin, hkept, hbel⟩; rw [show extF P l1.length l2 (fstep comp l1.length l1.length).1 (rstep l2 l1.length l2.length).1 all (l1.length + 1) 0 (rstep l2 l1.length l2.length).2 ⟨budget, List.replicate l1.length 0, false, false, [], 0⟩ = _ from HST.out.symm] at hfin; obtain ⟨vS, q1, q2, q3⟩ := hfin; obtain ⟨As, cs, rfl⟩ := qak q3; have c6 := (qe q1 6).trans rfl; have c8 := (qe q1 8).trans rfl; have c9 := (qe q1 9).trans rfl; have c10 := (qe q1 10).trans rfl; have c11 := (qe q1 11).trans rfl; have HRS := qo q3; have HB3 := qo (qt HB1.out hbel); clear q1 q2 q3 hkept hbel))
       go_quiet (fail)
       go_wp2_with fail
       ((try simp only [Exit.inBlock, Exit.then]); refine bodyPost_ret (results_tmp4 rfl _ _ _) rfl ?_)
       exact ⟨_, by first | rfl | go_num, qy (qag (qg HRS.out _) (qu HB1.out)) (fun _ _ => trivial), qb HB3.out _⟩
      | false =>
       obtain ⟨rfl, rfl, rfl, rfl⟩ : ([] : List Int) = r1 ∧ (0 : Int) = r2 ∧ wrap64 (budget - left) = r3 ∧ (14 : Int) = r4 := by simpa [outF] using hout
       clear hout
       go_enter Try.func36, Try.ntmps36
       go_wp2_with (first | (go_at_call 57; refine (HCK.out _ (qs HR1.out HB0.out) (qs HR2.out HB0.out) _ HQ.out).mono ?_; rintro e w1 ⟨rfl, hd⟩; have hnb1 := qaa HNB.out hd; obtain ⟨k0, k1, k2⟩ : w1.cell? ⟨w.heap.size, 0, none⟩ = some (.int .i64 P) ∧ w1.cell? ⟨w.heap.size, 1, none⟩ = some (.slice A1 l1.length c1) ∧ w1.cell? ⟨w.heap.size, 2, none⟩ = some (.slice A2 l2.length c2) := ⟨(qe hnb1 0).trans rfl, (qe hnb1 1).trans rfl, (qe hnb1 2).trans rfl⟩; have HB1 := qo (qt HB0.out hd); clear hd hnb1) | (go_at_call 58; refine (HPREP.out _ HB1.out).mono ?_; rintro e w2 ⟨g, F, R, T, rfl, hp⟩; have HE := qo (HEXT.out _ _ g F R T HB1.out hp); clear hp k0 k1 k2) | (go_at_call 59; refine HE.out.mono ?_; rintro e w3 ⟨rfl, hfin, hkept, hbel⟩; rw [show extF P l1.length l2 (fstep comp l1.length l1.length).1 (rstep l2 l1.length l2.length).1 all (l1.length + 1) 0 (rstep l2 l1.length l2.length).2 ⟨budget, List.replicate l1.length 0, false, false, [], 0⟩ = _ from HST.out.symm] at hfin; obtain ⟨vS, q1, q2, q3⟩ := hfin; obtain ⟨As, cs, rfl⟩ := qak q3; have c6 := (qe q1 6).trans rfl; have c8 := (qe q1 8).trans rfl; have c9 := (qe q1 9).trans rfl; have c10 := (qe q1 10).trans rfl; have c11 := (qe q1 11).trans rfl; have HRS := qo q3; have HB3 := qo (qt HB1.out hbel); clear q1 q2 q3 hkept hbel))
       go_quiet (fail)
       go_wp2_with fail
       ((try simp only [Exit.inBlock, Exit.then]); refine bodyPost_ret (results_tmp4 rfl _ _ _) rfl ?_)
       exact ⟨_, by first | rfl | go_num, Kd.R_nil _ _ _ _ _, qb HB3.out _⟩
    ·rw [if_neg hcl] at h'; exact absurd h' (by simp)
  ·rw [if_neg hbd] at h
   have h2 := Option.some.inj h
   simp only [Prod.mk.injEq] at h2
   obtain ⟨rfl, rfl, rfl, rfl⟩ := h2
   clear h hok hr1 hr2
   by_cases hlow : budget < 1
   ·have hbl : decide (budget < 1) = true := qac hlow
    clear hbd
    go_enter Try.func36, Try.ntmps36
    go_wp2_with (go_at_call 57; refine (HCK.out _ (qs HR1.out HB0.out) (qs HR2.out HB0.out) _ HQ.out).mono ?_; rintro e w' ⟨rfl, hd⟩)
    ((try simp only [Exit.inBlock, Exit.then]); refine bodyPost_ret (results_tmp4 rfl _ _ _) rfl ?_)
    exact ⟨_, rfl, Kd.R_nil _ _ _ _ _, qt HB0.out hd⟩
   ·have hhi : budget > 1048576 := by omega
    have hbg : decide (budget > 1048576) = true := qac hhi
    clear hbd
    go_enter Try.func36, Try.ntmps36
    go_wp2_with (go_at_call 57; refine (HCK.out _ (qs HR1.out HB0.out) (qs HR2.out HB0.out) _ HQ.out).mono ?_; rintro e w' ⟨rfl, hd⟩)
    ((try simp only [Exit.inBlock, Exit.then]); refine bodyPost_ret (results_tmp4 rfl _ _ _) rfl ?_)
    exact ⟨_, rfl, Kd.R_nil _ _ _ _ _, qt HB0.out hd⟩
 ·rw [if_neg hok] at h
  have h2 := Option.some.inj h
  simp only [Prod.mk.injEq] at h2
  obtain ⟨rfl, rfl, rfl, rfl⟩ := h2
  have HQ : Aside0 (network_Check.f P l1 l2 = some false) := ⟨by unfold network_Check.f; rw [Bool.eq_false_iff.2 hok]⟩
  clear h hok hr1 hr2
  go_enter Try.func36, Try.ntmps36
  go_wp2_with (go_at_call 57; refine (HCK.out _ (qs HR1.out HB0.out) (qs HR2.out HB0.out) _ HQ.out).mono ?_; rintro e w' ⟨rfl, hd⟩)
  ((try simp only [Exit.inBlock, Exit.then]); refine bodyPost_ret (results_tmp4 rfl _ _ _) rfl ?_)
  exact ⟨_, rfl, Kd.R_nil _ _ _ _ _, qt HB0.out hd⟩

/-! ### search_Feasible: function 13 -/
def search_Feasible.f (k : Nat) (a0_0 : Int) (l0_1 : List (S60)) (l0_2 : List (S62)) (a1 : Int) : Option (List Int × Int × Int) := (search_run.f k a0_0 l0_1 l0_2 a1 false).bind fun bt118 => (some (bt118.1, bt118.2.2.1, bt118.2.2.2))
theorem search_Feasible.mono : ∀ a0 a1 a2 a3 k, LeO (search_Feasible.f k a0 a1 a2 a3) (search_Feasible.f (k + 1) a0 a1 a2 a3) := by
 intro a0 a1 a2 a3 k
 unfold search_Feasible.f
 repeat' first
   | (with_reducible exact search_run.mono _ _ _ _ _ _)
   | (with_reducible exact LeO.refl _)
   | (with_reducible exact LeO.none _)
   | (with_reducible refine LeO.ite ?_ ?_)
   | (with_reducible refine LeO.bind ?_ (fun _ => ?_))
   | exact search_run.mono _ _ _ _ _ _
   | exact LeO.none _
   | refine LeO.ite ?_ ?_
   | refine LeO.bind ?_ (fun _ => ?_)
set_option maxHeartbeats 8000000 in
set_option maxRecDepth 100000 in
theorem search_Feasible.calls (k : Nat) (a0_0 : Int) (A0_1 : Option Addr) (c0_1 : Nat) (l0_1 : List (S60)) (A0_2 : Option Addr) (c0_2 : Nat) (l0_2 : List (S62)) (a1 : Int) (r1 : List Int) (r2 : Int) (r3 : Int) (w : World) (hr0_1 : Kd.C k60 w A0_1 l0_1.length l0_1) (hc0_1 : l0_1.length ≤ c0_1) (hr0_2 : Kd.C k62 w A0_2 l0_2.length l0_2) (hc0_2 : l0_2.length ≤ c0_2) (h : search_Feasible.f k a0_0 l0_1 l0_2 a1 = some (r1, r2, r3)) :
  Calls Try.prog 13 #[.agg #[.int .i64 a0_0, .slice A0_1 l0_1.length c0_1, .slice A0_2 l0_2.length c0_2], .int .i64 a1] w fun e w' => ∃ v0_ : Value, e = .returned (.tuple #[v0_, .int .i64 r2, .int .i64 r3]) ∧ Kd.R (Kd.int .i64) 3 w' w.heap.size (fun _ => True) v0_ r1 ∧ Below w.heap.size w w' := by
 have hu26 := Try.underlying26
 have HR0_1 := qo hr0_1
 have HC0_1 := qo hc0_1
 clear hr0_1 hc0_1
 have HR0_2 := qo hr0_2
 have HC0_2 := qo hc0_2
 clear hr0_2 hc0_2
 have HB := qo (qaj w.heap.size w)
 have H : ((search_run.f k a0_0 l0_1 l0_2 a1 false).bind fun bt118 => (some (bt118.1, bt118.2.2.1, bt118.2.2.2))) = some (r1, r2, r3) := h
 clear h
 replace H := Option.bind_eq_some_iff.mp H
 obtain ⟨⟨t118, t121, t122, t123⟩, A30, H⟩ := H
 replace H : (some (t118, t122, t123)) = some (r1, r2, r3) := H
 have A3 := qo A30
 clear A30
 simp only [Option.some.injEq, Prod.mk.injEq] at H
 obtain ⟨rfl, rfl, rfl⟩ := H
 go_enter Try.func13, Try.ntmps13
 go_wp2_with (first | ((with_reducible refine gate_dst (N := 2) rfl ?_); refine box_event ?hg (N := 2) ?hd (cs := #[.int .i64 a0_0, .slice A0_1 l0_1.length c0_1, .slice A0_2 l0_2.length c0_2]) (t := 26) ?hr ?_; (case hd => rfl); (case hg => rfl); (case hr => first | (go_simp; done) | (go_simp; rfl)); intro gb117 hg w4 hbox hb; have n0_ := qo (qt (by repeat (first | (with_reducible first | exact HB.out | apply qc | apply qb | apply qd) | exact HB.out)) hb); have n1_ := qo (hbox); have n2_ := qo ((by rw [hg]; exact (qu (by repeat (first | (with_reducible first | exact HB.out | apply qc | apply qb | apply qd) | exact HB.out))) : w.heap.size ≤ gb117)); have n3_ := qo ((by rw [hg]; exact (qu (by repeat (first | (with_reducible first | exact HB.out | apply qc | apply qb | apply qd) | exact HB.out))) : w.heap.size ≤ gb117)); clear HB; have HB := n0_; have BK117 := n1_; have GW117 := n2_; have GE117 := n3_; clear n0_ n1_ n2_ n3_; clear hb hbox hg; have hcz5_0 : w4.cell? ⟨gb117, 0, none⟩ = some (.int .i64 a0_0) := (qe BK117.out 0).trans rfl; have hcz5_1 : w4.cell? ⟨gb117, 1, none⟩ = some (.slice A0_1 l0_1.length c0_1) := (qe BK117.out 1).trans rfl; have hcz5_2 : w4.cell? ⟨gb117, 2, none⟩ = some (.slice A0_2 l0_2.length c0_2) := (qe BK117.out 2).trans rfl; have hfz5_0 := qf BK117.out 0; have hfz5_1 := qf BK117.out 1; have hfz5_2 := qf BK117.out 2) | ((with_reducible refine gate_callee (f := 36) rfl ?_); refine goesL_ (some 14) rfl rfl Try.func36 (by kernel_rfl) rfl #[.agg #[.int .i64 a0_0, .slice A0_1 l0_1.length c0_1, .slice A0_2 l0_2.length c0_2], .int .i64 a1, .bool false] rfl (by (try simp only [List.map_toArray, List.map_cons, List.map_nil]); first | done | rfl | (simp only [List.length_drop, List.length_take]; rfl)) ?_; (with_reducible refine (search_run.calls k a0_0 _ _ l0_1 _ _ l0_2 a1 false t118 t121 t122 t123 _ ?side1 ?side2 ?side3 ?side4 A3.out).mono ?_); (case side1 => repeat (first | exact (qs HR0_1.out HB.out) | (with_reducible refine qv ?_ _) | (with_reducible refine qw ?_ _) | (with_reducible refine qx ?_))); (case side2 => exact HC0_1.out); (case side3 => repeat (first | exact (qs HR0_2.out HB.out) | (with_reducible refine qv ?_ _) | (with_reducible refine qw ?_ _) | (with_reducible refine qx ?_))); (case side4 => exact HC0_2.out); rintro e w6 ⟨v119, rfl, ho0, hb⟩; refine ⟨_, rfl, ?_⟩; have n0_ := qo (qag ho0 (qu (by repeat (first | (with_reducible first | exact HB.out | apply qc | apply qb | apply qd | refine qn ?_ GE117.out) | exact HB.out)))); have n1_ := qo (qaa (g := gb117) (o := .cells #[.int .i64 a0_0, .slice A0_1 l0_1.length c0_1, .slice A0_2 l0_2.length c0_2] 26 (0, 0)) (by (with_reducible repeat (first | refine ql ?_ _ | refine qm ?_ | refine qk ?_ _)); exact BK117.out) hb); have n2_ := qo (qt (by repeat (first | (with_reducible first | exact HB.out | apply qc | apply qb | apply qd | refine qn ?_ GE117.out) | exact HB.out)) hb); clear BK117; clear HB; have HO120 := n0_; have BK117 := n1_; have HB := n2_; clear n0_ n1_ n2_; (try clear hb); (try clear hb2); (try clear hk); (try clear hi); (try clear ho0)))
 go_ret3
 exact ⟨_, by first | rfl | (simp [errW_none, errW_some] <;> rfl) | (simp [*, errW_none, errW_some] <;> rfl), by (with_reducible repeat (first | apply qh | apply qg | apply qi)); exact HO120.out, by repeat (first | (with_reducible first | exact HB.out | apply qc | apply qb | apply qd | refine qn ?_ GE117.out) | exact HB.out)⟩

/-! ### railplanlaw17_small: function 19 -/
def railplanlaw17_small.f  : Option (Int × (List (S60)) × (List (S62))) := if 2 ≤ 11728124029610 then (some (3, (List.replicate 2 z60), (([(⟨0, 0, 1, 1, 1, 1⟩ : S62)] : List (S62))))) else (none)
set_option maxHeartbeats 8000000 in
set_option maxRecDepth 100000 in
theorem railplanlaw17_small.calls  (r1 : Int) (r2 : List (S60)) (r3 : List (S62)) (w : World) (h : railplanlaw17_small.f  = some (r1, r2, r3)) :
  Calls Try.prog 19 #[] w fun e w' => ∃ v1_ v2_ : Value, e = .returned (.agg #[.int .i64 r1, v1_, v2_]) ∧ Kd.R k60 60 w' w.heap.size (fun _ => True) v1_ r2 ∧ Kd.R k62 62 w' w.heap.size (fun _ => True) v2_ r3 ∧ Below w.heap.size w w' := by
 have hu26 := Try.underlying26
 have hu62 := Try.underlying62
 have HB := qo (qaj w.heap.size w)
 have H : (if 2 ≤ 11728124029610 then (some (3, (List.replicate 2 z60), (([(⟨0, 0, 1, 1, 1, 1⟩ : S62)] : List (S62))))) else (none)) = some (r1, r2, r3) := h
 clear h
 by_cases c1 : 2 ≤ 11728124029610
 ·rw [if_pos c1] at H
  have c1b0 := eq_true c1
  have c1b1 : decide (2 ≤ 11728124029610) = true := qac c1
  clear c1
  obtain ⟨y125, hy125⟩ : ∃ y_ : List (S60), y_ = (List.replicate 2 z60) := ⟨_, rfl⟩
  replace H : (some (3, y125, (([(⟨0, 0, 1, 1, 1, 1⟩ : S62)] : List (S62))))) = some (r1, r2, r3) := by first | (rw [hy125]; with_reducible exact H) | (have H2_ := (Option.bind_some _ _).symm.trans H; rw [hy125]; with_reducible exact H2_) | (have H2_ := (Option.bind_some _ _).symm.trans H; with_reducible exact H2_) | with_reducible exact H | (rw [hy125]; exact H) | exact H
  have Ny125 := qo hy125
  clear hy125
  obtain ⟨y128, hy128⟩ : ∃ y_ : List (S62), y_ = (([(⟨0, 0, 1, 1, 1, 1⟩ : S62)] : List (S62))) := ⟨_, rfl⟩
  replace H : (some (3, y125, y128)) = some (r1, r2, r3) := by first | (rw [hy128]; with_reducible exact H) | (have H2_ := (Option.bind_some _ _).symm.trans H; rw [hy128]; with_reducible exact H2_) | (have H2_ := (Option.bind_some _ _).symm.trans H; with_reducible exact H2_) | with_reducible exact H | (rw [hy128]; exact H) | exact H
  have Ny128 := qo hy128
  clear hy128
  simp only [Option.some.injEq, Prod.mk.injEq] at H
  obtain ⟨rfl, rfl, rfl⟩ := H
  go_enter Try.func19, Try.ntmps19
  go_wp2_with (first | ((with_reducible refine gate_dst (N := 0) rfl ?_); refine box_event ?hg (N := 0) ?hd (cs := #[.int .i64 0, .slice none 0 0, .slice none 0 0]) (t := 26) ?hr ?_; (case hd => rfl); (case hg => rfl); (case hr => first | (go_simp; done) | (go_simp; rfl)); intro gb124 hg w2 hbox hb; have n0_ := qo (qt (by repeat (first | (with_reducible first | exact HB.out | apply qc | apply qb | apply qd) | exact HB.out)) hb); have n1_ := qo (hbox); have n2_ := qo ((by rw [hg]; exact (qu (by repeat (first | (with_reducible first | exact HB.out | apply qc | apply qb | apply qd) | exact HB.out))) : w.heap.size ≤ gb124)); have n3_ := qo ((by rw [hg]; exact (qu (by repeat (first | (with_reducible first | exact HB.out | apply qc | apply qb | apply qd) | exact HB.out))) : w.heap.size ≤ gb124)); clear HB; have HB := n0_; have BK124 := n1_; have GW124 := n2_; have GE124 := n3_; clear n0_ n1_ n2_ n3_; clear hb hbox hg) | ((with_reducible refine gate_dst (N := 1) rfl ?_); refine Kd.R_make k60 _ 60 rfl (N := 1) rfl 23 _ _ rfl 2 rfl rfl Try.underlying23 (.agg #[(.int .i64 0), (.int .i64 0), (.int .i64 0)]) 24 info60 rfl (by decide) (by omega) z60 (ok := fun _ => True) (okp := fun _ => True) (k60_mkM _ _ _ z60 ) (fun _ hk => hk) trivial (by omega) (by omega) (qaj _ _) (Nat.le_refl _) ?_; intro v126 w3 ho4 hb hg_ hnew_; clear hg_ hnew_; (first | rw [← Ny125.out] at ho4 | (simp only [Int.reduceToNat] at ho4; rw [← Ny125.out] at ho4)); have n0_ := qo (qag ho4 (qu (by repeat (first | (with_reducible first | exact HB.out | apply qc | apply qb | apply qd | refine qn ?_ GE124.out) | exact HB.out)))); have n1_ := qo (qaa (g := gb124) (o := .cells #[.int .i64 0, .slice none 0 0, .slice none 0 0] 26 (0, 0)) (by (with_reducible repeat (first | refine ql ?_ _ | refine qm ?_ | refine qk ?_ _)); exact BK124.out) hb); have n2_ := qo (qt (by repeat (first | (with_reducible first | exact HB.out | apply qc | apply qb | apply qd | refine qn ?_ GE124.out) | exact HB.out)) hb); clear BK124; clear HB; have HO127 := n0_; have BK124 := n1_; have HB := n2_; clear n0_ n1_ n2_; clear hb ho4) | ((with_reducible refine gate_dst (N := 3) rfl ?_); refine Kd.R_lit k62 _ 62 ?hg (N := 3) ?hd (xs := ([(⟨0, 0, 1, 1, 1, 1⟩ : S62)] : List (S62))) (inner := [.int .i64 0, .int .i64 0, .int .i64 1, .int .i64 1, .int .i64 1, .int .i64 1]) (ok := fun _ => True) (okp := fun _ => True) ?hr ?hp (fun _ hk => hk) trivial (qaj _ _) (Nat.le_refl _) (by simp) ?_; (case hd => rfl); (case hg => rfl); (case hr => first | (go_simp; done) | (go_simp; rfl)); (case hp => exact (Reps.c6 (show Kd.M k62 _ _ _ (⟨0, 0, 1, 1, 1, 1⟩ : S62) [.int .i64 0, .int .i64 0, .int .i64 1, .int .i64 1, .int .i64 1, .int .i64 1] from (k62_mkM _ _ _ (⟨0, 0, 1, 1, 1, 1⟩ : S62) )) (Reps.none _ _))); intro v129 w5 ho6 hb hg_ hnew_; clear hg_ hnew_; (first | rw [← Ny128.out] at ho6 | (simp only [Int.reduceToNat] at ho6; rw [← Ny128.out] at ho6)); have n0_ := qo (qae (by (with_reducible repeat (first | apply qh | apply qg | apply qi)); exact HO127.out) hb); have n1_ := qo (qag ho6 (qu (by repeat (first | (with_reducible first | exact HB.out | apply qc | apply qb | apply qd | refine qn ?_ GE124.out) | exact HB.out)))); have n2_ := qo (qaa (g := gb124) (o := .cells #[.int .i64 0, .slice none 0 0, .slice none 0 0] 26 (0, 0)) (by (with_reducible repeat (first | refine ql ?_ _ | refine qm ?_ | refine qk ?_ _)); exact BK124.out) hb); have n3_ := qo (qt (by repeat (first | (with_reducible first | exact HB.out | apply qc | apply qb | apply qd | refine qn ?_ GE124.out) | exact HB.out)) hb); clear HO127; clear BK124; clear HB; have HO127 := n0_; have HO130 := n1_; have BK124 := n2_; have HB := n3_; clear n0_ n1_ n2_ n3_; clear hb ho6; obtain ⟨Ao7, co7, eo7⟩ := qak HO130.out; subst eo7; obtain ⟨Ao8, co8, eo8⟩ := qak HO127.out; subst eo8; have hcz9_0 : w5.cell? ⟨gb124, 0, none⟩ = some (.int .i64 0) := (qe BK124.out 0).trans rfl; have hcz9_1 : w5.cell? ⟨gb124, 1, none⟩ = some (.slice none 0 0) := (qe BK124.out 1).trans rfl; have hcz9_2 : w5.cell? ⟨gb124, 2, none⟩ = some (.slice none 0 0) := (qe BK124.out 2).trans rfl; have hfz9_0 := qf BK124.out 0; have hfz9_1 := qf BK124.out 1; have hfz9_2 := qf BK124.out 2))
  refine bodyPost_ret (results_cell_row rfl _ _ gb124 26 #[.int .i64 3, .slice Ao8 y125.length co8, .slice Ao7 y128.length co7] (0, 0) _ rfl (by (with_reducible repeat (first | refine ql ?_ _ | refine qm ?_ | refine qk ?_ _)); refine qal (cs := #[.int .i64 3, .slice Ao8 y125.length co8, .slice none 0 0]) ?_ 2 _ rfl; (with_reducible repeat (first | refine ql ?_ _ | refine qm ?_ | refine qk ?_ _)); refine qal (cs := #[.int .i64 3, .slice none 0 0, .slice none 0 0]) ?_ 1 _ rfl; (with_reducible repeat (first | refine ql ?_ _ | refine qm ?_ | refine qk ?_ _)); refine qal (cs := #[.int .i64 0, .slice none 0 0, .slice none 0 0]) ?_ 0 _ rfl; (with_reducible repeat (first | refine ql ?_ _ | refine qm ?_ | refine qk ?_ _)); exact BK124.out) Try.underlying26 rfl (by kernel_rfl)) rfl ?_
  exact ⟨_, _, by first | rfl | (simp [errW_none, errW_some] <;> rfl) | (simp [*, errW_none, errW_some] <;> rfl), by (with_reducible repeat (first | apply qh | apply qg | apply qi)); exact qy (qz (p := ⟨gb124, 2, none⟩) (qz (p := ⟨gb124, 1, none⟩) (qz (p := ⟨gb124, 0, none⟩) (qaf HO127.out BK124.out (by decide)) (fun _ hk => hk.2) (.int .i64 3)) (fun _ hk => hk.2) (.slice Ao8 y125.length co8)) (fun _ hk => hk.2) (.slice Ao7 y128.length co7)) (fun _ hk => trivial), by (with_reducible repeat (first | apply qh | apply qg | apply qi)); exact qy (qz (p := ⟨gb124, 2, none⟩) (qz (p := ⟨gb124, 1, none⟩) (qz (p := ⟨gb124, 0, none⟩) (qaf HO130.out BK124.out (by decide)) (fun _ hk => hk.2) (.int .i64 3)) (fun _ hk => hk.2) (.slice Ao8 y125.length co8)) (fun _ hk => hk.2) (.slice Ao7 y128.length co7)) (fun _ hk => trivial), by repeat (first | (with_reducible first | exact HB.out | apply qc | apply qb | apply qd | refine qn ?_ GE124.out) | exact HB.out)⟩
 ·rw [if_neg c1] at H
  exact absurd H (by simp)

end Go.Proofs.Ytpioelilfhkfdaa.XAll
