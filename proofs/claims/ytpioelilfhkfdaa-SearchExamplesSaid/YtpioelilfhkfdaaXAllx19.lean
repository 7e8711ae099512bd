-- This session's own text, written by wip/tools/xall.py after the form of the kit's print.
import Derived.Test.YtpioelilfhkfdaaXAllx0
import Derived.Test.YtpioelilfhkfdaaXAllx8
import Derived.Test.YtpioelilfhkfdaaXAllx9
import Derived.Test.YtpioelilfhkfdaaXAllx10
import Derived.Test.YtpioelilfhkfdaaXAllx11
import Derived.Test.YtpioelilfhkfdaaXAllx12
import Derived.Test.YtpioelilfhkfdaaXAllx13
import Derived.Test.YtpioelilfhkfdaaXAllx17
import Derived.Test.YtpioelilfhkfdaaXAllx18
namespace Go.Proofs.Ytpioelilfhkfdaa.XAll
open Go.RowKit Go.Proofs.YtpioelilfhkfdaaW.PrintWords Go.Proofs.YtpioelilfhkfdaaW.PrintLast Go.Proofs.YtpioelilfhkfdaaW.PrintMore
attribute [local go_sem] max2_int min2_int max_two min_two max_three min_three max_four min_four   -- for this text's walks alone
set_option linter.unusedVariables false
set_option linter.unusedSimpArgs false

/-! ### search_run: function 36 -/
theorem k36_heap' : Kd.Heap k62 := Kd.heap_iso _ (Kd.heap_pair (Kd.heap_int _) (Kd.heap_pair (Kd.heap_int _) (Kd.heap_pair (Kd.heap_int _) (Kd.heap_pair (Kd.heap_int _) (Kd.heap_pair (Kd.heap_int _) (Kd.heap_int _))))))
theorem bools_C {w : World} {B : Nat} {bs : List Bool} (h : w.heap[B]? = some (.cells (bs.map Value.bool).toArray 4 (0, 0))) (hl : bs.length ≤ 9223372036854775807) : Kd.C Kd.bool w (some ⟨B, 0, none⟩) bs.length bs :=
 ⟨rfl, hl, fun _ => ⟨⟨B, 0, none⟩, rfl, fun j p hj => ⟨[.bool p], rfl, rfl, fun i u hu => by
  obtain ⟨hi, e⟩ := List.getElem?_eq_some_iff.1 hu
  have hi0 : i = 0 := by simp at hi; exact hi
  subst hi0
  simp at e
  subst e
  rw [add_plain, blk_cell h]
  simp [Kd.bool, Kd.scalar, hj]⟩⟩⟩
theorem okNet_good {P : Int} {ev : List S60} {ac : List S62} (h : okNet P ev ac = true) : (2 ≤ P ∧ P ≤ 7200) ∧ ev.length ≤ 48 ∧ ac.length ≤ 512 ∧ ∀ a ∈ ac, GoodAct P ev.length a := by
 unfold okNet at h
 rw [Bool.and_eq_true, decide_eq_true_eq] at h
 obtain ⟨⟨h1, h2, h3, h4⟩, h5⟩ := h
 refine ⟨⟨h1, h2⟩, by omega, by omega, fun a ha => ?_⟩
 have h6 : badAct P ((ev.length : Int) - 1) a = false := by
  cases hb : badAct P ((ev.length : Int) - 1) a with
  | false => rfl
  | true =>
   have : ac.any (badAct P ((ev.length : Int) - 1)) = true := List.any_eq_true.2 ⟨a, ha, hb⟩
   rw [this] at h5
   exact absurd h5 (by decide)
 unfold badAct at h6
 simp at h6
 exact ⟨by omega, by omega, by omega, by omega, by omega⟩
/-- The finder as prepare leaves it. -/
theorem prep_fin {w W : World} {g F R T : Nat} {P : Int} {A1 : Option Addr} {c1 : Nat} {n : Nat} {A2 : Option Addr} {c2 : Nat} {ac : List S62} {budget : Int} {all : Bool} {fs : List Bool} {rdy : List (List Int)} (h : PrepSt w W g F R T P A1 c1 n A2 c2 ac.length budget all fs rdy) (hf : fs.length = n) (hr : rdy.length = n) (hac : Kd.C k62 w A2 ac.length ac) (hn : n ≤ 48) :
  FIN w W g T P n ac fs rdy all A1 A2 (some ⟨F, 0, none⟩) (some ⟨R, 0, none⟩) c1 c2 n n ⟨budget, List.replicate n 0, false, false, [], 0⟩ ∧ g ≠ T ∧
   (∀ W', Kept W W' (FS g T) → Kd.C k62 W' A2 ac.length ac) ∧ (∀ W', Kept W W' (FS g T) → Kd.C Kd.bool W' (some ⟨F, 0, none⟩) fs.length fs) ∧ (∀ W', Kept W W' (FS g T) → Kd.C (Kd.slice 3 (Kd.int .i64)) W' (some ⟨R, 0, none⟩) rdy.length rdy) := by
 obtain ⟨p1, p2, p3, p4, p5, ⟨p6, p7, p8⟩, p9⟩ := h
 have hgT := blk_ne p1 p3 (by decide)
 refine ⟨⟨.slice none 0 0, by simpa [hf, hr] using p1, p3, Kd.R_nil _ _ _ _ _⟩, hgT, fun W' hk => ?_, fun W' hk => ?_, fun W' hk => ?_⟩
 ·refine Kd.C_F k36_heap' hac W' (fun k hlt _ => ?_)
  have hs := p9.size
  exact (hk.2 k (by omega) (fun e => by unfold FS at e; omega)).trans (p9.block k hlt)
 ·have hb := blk_kept p2 hk (fun e => by
   rcases e with e | e
   ·exact blk_ne p2 p1 (by decide) e
   ·exact blk_ne p2 p3 (by decide) e)
  exact bools_C hb (by omega)
 ·have hS := Kd.S_kept p4 hk (fun k ho e => by
   rcases e with e | e
   ·exact ho.1 e
   ·exact ho.2.2 e)
  rw [hr]
  have := (Kd.S_reads' hS).2.2
  rwa [hr] at this
def stF (P : Int) (l1 : List S60) (l2 : List S62) (comp : List Int) (budget : Int) (all : Bool) : St :=
 extF P l1.length l2 (fstep comp l1.length l1.length).1 (rstep l2 l1.length l2.length).1 all (l1.length + 1) 0 (rstep l2 l1.length l2.length).2 ⟨budget, List.replicate l1.length 0, false, false, [], 0⟩
def outF (budget : Int) (st : St) : List Int × Int × Int × Int :=
 if st.broken = true then ([], 0, 0, 15) else if st.found = true then (st.res, st.cost, wrap64 (budget - st.left), 0) else ([], 0, wrap64 (budget - st.left), 14)
/-- What run returns. -/
def search_run.f (k : Nat) (P : Int) (l1 : List S60) (l2 : List S62) (budget : Int) (all : Bool) : Option (List Int × Int × Int × Int) :=
 if okNet P l1 l2 = true then (if 1 ≤ budget ∧ budget ≤ 1048576 then (compF k l1.length l2).bind fun comp => if comp.length = l1.length then some (outF budget (stF P l1 l2 comp budget all)) else none else some (([] : List Int), 0, 0, 4)) else some (([] : List Int), 0, 0, 1)
theorem rstep_mem (ac : List S62) (n : Nat) : ∀ (i : Nat) (k : Int), ∀ x ∈ rdL (rstep ac n i).1 k, 0 ≤ x ∧ x < (i : Int)
 | 0, k => by
  intro x hx
  have h0 : rdL (rstep ac n 0).1 k = [] := by
   show (List.replicate n ([] : List Int)).getD k.toNat [] = []
   rw [List.getD_eq_getElem?_getD, List.getElem?_replicate]
   split <;> rfl
  rw [h0] at hx
  exact absurd hx (by simp)
 | i + 1, k => by
  intro x hx
  have h1 := rstep_mem ac n i (late (rd_T62 ac (i : Int)))
  have h2 := rstep_mem ac n i k
  have e : ∀ (xs : List (List Int)) (y : List Int) (a b : Nat), (xs.set a y).getD b [] = y ∨ (xs.set a y).getD b [] = xs.getD b [] ∨ (xs.set a y).getD b [] = [] := fun xs y a b => by
   rw [List.getD_eq_getElem?_getD, List.getElem?_set]
   split
   ·split
    ·exact .inl rfl
    ·exact .inr (.inr rfl)
   ·exact .inr (.inl (List.getD_eq_getElem?_getD ..).symm)
  have hx' : x ∈ ((rstep ac n i).1.set (late (rd_T62 ac (i : Int))).toNat (rdL (rstep ac n i).1 (late (rd_T62 ac (i : Int))) ++ [(i : Int)])).getD k.toNat [] := hx
  rcases e (rstep ac n i).1 (rdL (rstep ac n i).1 (late (rd_T62 ac (i : Int))) ++ [(i : Int)]) (late (rd_T62 ac (i : Int))).toNat k.toNat with h | h | h
  ·rw [h] at hx'
   rcases List.mem_append.1 hx' with h3 | h3
   ·have := h1 x h3; omega
   ·rw [List.mem_singleton.1 h3]; omega
  ·rw [h] at hx'
   have := h2 x hx'; omega
  ·rw [h] at hx'
   exact absurd hx' (by simp)
theorem inv_start (n : Nat) (budget : Int) (hb : 1 ≤ budget ∧ budget ≤ 1048576) : Inv n ⟨budget, List.replicate n 0, false, false, [], 0⟩ := by
 refine ⟨List.length_replicate, fun i h0 h1 => ?_, by show 0 ≤ budget ∧ budget ≤ 1048576; omega⟩
 show 0 ≤ rd (List.replicate n 0) i ∧ rd (List.replicate n 0) i ≤ 7200
 have : rd (List.replicate n 0) i = 0 := by
  unfold rd
  rw [List.getD_eq_getElem?_getD, List.getElem?_replicate]
  split <;> rfl
 omega
theorem mergeLoop_mono (k : Nat) (ac : List S62) : ∀ (d i : Nat) (g : List Int), LeO (mergeLoop k ac d i g) (mergeLoop (k + 1) ac d i g)
 | 0, _, _ => LeO.refl _
 | d + 1, i, g => by
  unfold mergeLoop
  exact LeO.bind (cycles_groups_merge.mono _ _ _ _) (fun _ => mergeLoop_mono k ac d (i + 1) _)
theorem numLoop_mono (k : Nat) : ∀ (d i : Nat) (g dn out : List Int), LeO (numLoop k d i g dn out) (numLoop (k + 1) d i g dn out)
 | 0, _, _, _, _ => LeO.refl _
 | d + 1, i, g, dn, out => by
  unfold numLoop
  exact LeO.bind (cycles_groups_find.mono _ _ _) (fun _ => numLoop_mono k d (i + 1) _ _ _)
theorem compF_mono (k n : Nat) (ac : List S62) : LeO (compF k n ac) (compF (k + 1) n ac) := by
 unfold compF
 refine LeO.bind (cycles_alone.mono _ _) (fun g => ?_)
 refine LeO.ite ?_ (LeO.refl _)
 exact LeO.bind (mergeLoop_mono k ac _ _ _) (fun _ => numLoop_mono k _ _ _ _ _)
theorem search_run.mono : ∀ P l1 l2 budget all k, LeO (search_run.f k P l1 l2 budget all) (search_run.f (k + 1) P l1 l2 budget all) := by
 intro P l1 l2 budget all k
 unfold search_run.f
 refine LeO.ite (LeO.ite ?_ (LeO.refl _)) (LeO.refl _)
 exact LeO.bind (compF_mono k _ _) (fun _ => LeO.refl _)
theorem results_tmp4 {fn : Func} {t u v x : Tmp} (h : fn.results = #[.tmp t, .tmp u, .tmp v, .tmp x]) (tmps : Array Value) (P : Program) (w : World) :
  (results fn tmps).run P w = .ok (.tuple #[tmps.getD t undef, tmps.getD u undef, tmps.getD v undef, tmps.getD x undef]) w := by
 simp [results, h]
set_option maxHeartbeats 4000000 in
set_option maxRecDepth 100000 in
theorem search_run.calls (k : Nat) (P : Int) (A1 : Option Addr) (c1 : Nat) (l1 : List S60) (A2 : Option Addr) (c2 : Nat) (l2 : List S62) (budget : Int) (all : Bool) (r1 : List Int) (r2 r3 r4 : Int) (w : World) (hr1 : Kd.C k60 w A1 l1.length l1) (hc1 : l1.length ≤ c1) (hr2 : Kd.C k62 w A2 l2.length l2) (hc2 : l2.length ≤ c2) (h : search_run.f k P l1 l2 budget all = some (r1, r2, r3, r4)) :
  Calls Try.prog 36 #[.agg #[.int .i64 P, .slice A1 l1.length c1, .slice A2 l2.length c2], .int .i64 budget, .bool all] w fun e w' => ∃ v0 : Value, e = .returned (.tuple #[v0, .int .i64 r2, .int .i64 r3, .int .i64 r4]) ∧ Kd.R (Kd.int .i64) 3 w' w.heap.size (fun _ => True) v0 r1 ∧ Below w.heap.size w w' := by
 have hb0 := below_alloc (Below.refl w.heap.size w) (.cells #[.int .i64 P, .slice A1 l1.length c1, .slice A2 l2.length c2] 26)
 have hnb := blk_new w (.cells #[.int .i64 P, .slice A1 l1.length c1, .slice A2 l2.length c2] 26)
 have HB0 := Aside0.mk hb0
 have HNB := Aside0.mk hnb
 have HR1 := Aside0.mk hr1
 have HR2 := Aside0.mk hr2
 have HCK := Aside0.mk (fun W h1 h2 q hq => network_Check.calls P A1 c1 l1 A2 c2 l2 q W h1 hc1 h2 hc2 hq)
 clear hb0 hnb
 unfold search_run.f at h
 by_cases hok : okNet P l1 l2 = true
 ·rw [if_pos hok] at h
  have HQ : Aside0 (network_Check.f P l1 l2 = some true) := ⟨by unfold network_Check.f; rw [hok]⟩
  by_cases hbd : 1 ≤ budget ∧ budget ≤ 1048576
  ·rw [if_pos hbd] at h
   cases hcf : compF k l1.length l2 with
   | none => rw [hcf] at h; exact absurd h (by simp)
   | some comp =>
    rw [hcf] at h
    have h' : (if comp.length = l1.length then some (outF budget (stF P l1 l2 comp budget all)) else none) = some (r1, r2, r3, r4) := h
    clear h
    by_cases hcl : comp.length = l1.length
    ·rw [if_pos hcl] at h'
     have hout := Option.some.inj h'
     obtain ⟨hP, hn, hm, hgood⟩ := okNet_good hok
     obtain ⟨hb1, hb2⟩ := hbd
     have hbl : decide (budget < 1) = false := decide_eq_false (by omega)
     have hbg : decide (budget > 1048576) = false := decide_eq_false (by omega)
     have HPREP := Aside0.mk (fun (W : World) (hW : Below w.heap.size w W) => prep1 P A1 c1 l1 A2 c2 l2 budget all comp W hn hm (Kd.C_below hr2 hW) hgood hcl (fun W2 h2 => comp_calls k P A1 c1 l1 A2 c2 l2 comp W2 (Kd.C_below (Kd.C_below hr1 hW) h2) hc1 (Kd.C_below (Kd.C_below hr2 hW) h2) hc2 hok hn hcf))
     have HEXT := Aside0.mk (fun (W0 W : World) (g F R T : Nat) (hW0 : Below w.heap.size w W0) (hp : PrepSt W0 W g F R T P A1 c1 l1.length A2 c2 l2.length budget all (fstep comp l1.length l1.length).1 (rstep l2 l1.length l2.length).1) => by
      obtain ⟨f1, f2, f3, f4, f5⟩ := prep_fin hp (fstep_len _ _ _) (rstep_len _ _ _) (Kd.C_below hr2 hW0) hn
      exact ext_calls W0 g T P l1.length l2 _ _ all A1 A2 _ _ c1 c2 l1.length l1.length hP hn hgood (fstep_len _ _ _) (rstep_len _ _ _) (fun e _ x hx => rstep_mem l2 l1.length l2.length _ x hx) (fun e _ => Nat.le_trans (rstep_row _ _ _ _) hm) f2 hp.2.2.2.2.2.1.1 hp.2.2.2.2.2.1.2.2 (l1.length + 1) 0 (rstep l2 l1.length l2.length).2 _ W (by omega) (by omega) (by have := rstep_bd (P := P) (n := l1.length) hgood l2.length (Nat.le_refl _); omega) (inv_start _ _ ⟨hb1, hb2⟩) f1 hp.2.2.2.2.2.2 f3 f4 f5)
     obtain ⟨st, hst⟩ : ∃ st, st = stF P l1 l2 comp budget all := ⟨_, rfl⟩
     rw [← hst] at hout
     have HST := Aside0.mk hst
     clear h' hok hcf hcl hgood hr1 hr2 hc1 hc2 hst
     obtain ⟨left, ts, broken, found, res, cost⟩ := st
     cases broken with
     | true =>
      obtain ⟨rfl, rfl, rfl, rfl⟩ : ([] : List Int) = r1 ∧ (0 : Int) = r2 ∧ (0 : Int) = r3 ∧ (15 : Int) = r4 := by simpa [outF] using hout
      clear hout
      go_enter Try.func36, Try.ntmps36
      go_wp2_with (first | (go_at_call 57; refine (HCK.out _ (Kd.C_below HR1.out HB0.out) (Kd.C_below HR2.out HB0.out) _ HQ.out).mono ?_; rintro e w1 ⟨rfl, hd⟩; have hnb1 := blk_below HNB.out hd; obtain ⟨k0, k1, k2⟩ : w1.cell? ⟨w.heap.size, 0, none⟩ = some (.int .i64 P) ∧ w1.cell? ⟨w.heap.size, 1, none⟩ = some (.slice A1 l1.length c1) ∧ w1.cell? ⟨w.heap.size, 2, none⟩ = some (.slice A2 l2.length c2) := ⟨(blk_cell hnb1 0).trans rfl, (blk_cell hnb1 1).trans rfl, (blk_cell hnb1 2).trans rfl⟩; have HB1 := Aside0.mk (below_step HB0.out hd); clear hd hnb1) | (go_at_call 58; refine (HPREP.out _ HB1.out).mono ?_; rintro e w2 ⟨g, F, R, T, rfl, hp⟩; have HE := Aside0.mk (HEXT.out _ _ g F R T HB1.out hp); clear hp k0 k1 k2) | (go_at_call 59; refine HE.out.mono ?_; rintro e w3 ⟨rfl, hfin, hkept, hbel⟩; rw [show extF P l1.length l2 (fstep comp l1.length l1.length).1 (rstep l2 l1.length l2.length).1 all (l1.length + 1) 0 (rstep l2 l1.length l2.length).2 ⟨budget, List.replicate l1.length 0, false, false, [], 0⟩ = _ from HST.out.symm] at hfin; obtain ⟨vS, q1, q2, q3⟩ := hfin; obtain ⟨As, cs, rfl⟩ := Kd.R_slice q3; have c6 := (blk_cell q1 6).trans rfl; have c8 := (blk_cell q1 8).trans rfl; have c9 := (blk_cell q1 9).trans rfl; have c10 := (blk_cell q1 10).trans rfl; have c11 := (blk_cell q1 11).trans rfl; have HRS := Aside0.mk q3; have HB3 := Aside0.mk (below_step HB1.out hbel); clear q1 q2 q3 hkept hbel))
      ((try simp only [Exit.inBlock, Exit.then]); refine bodyPost_ret (results_tmp4 rfl _ _ _) rfl ?_)
      exact ⟨_, rfl, Kd.R_nil _ _ _ _ _, HB3.out⟩
     | false =>
      cases found with
      | true =>
       obtain ⟨rfl, rfl, rfl, rfl⟩ : res = r1 ∧ cost = r2 ∧ wrap64 (budget - left) = r3 ∧ (0 : Int) = r4 := by simpa [outF] using hout
       clear hout
       go_enter Try.func36, Try.ntmps36
       go_wp2_with (first | (go_at_call 57; refine (HCK.out _ (Kd.C_below HR1.out HB0.out) (Kd.C_below HR2.out HB0.out) _ HQ.out).mono ?_; rintro e w1 ⟨rfl, hd⟩; have hnb1 := blk_below HNB.out hd; obtain ⟨k0, k1, k2⟩ : w1.cell? ⟨w.heap.size, 0, none⟩ = some (.int .i64 P) ∧ w1.cell? ⟨w.heap.size, 1, none⟩ = some (.slice A1 l1.length c1) ∧ w1.cell? ⟨w.heap.size, 2, none⟩ = some (.slice A2 l2.length c2) := ⟨(blk_cell hnb1 0).trans rfl, (blk_cell hnb1 1).trans rfl, (blk_cell hnb1 2).trans rfl⟩; have HB1 := Aside0.mk (below_step HB0.out hd); clear hd hnb1) | (go_at_call 58; refine (HPREP.out _ HB1.out).mono ?_; rintro e w2 ⟨g, F, R, T, rfl, hp⟩; have HE := Aside0.mk (HEXT.out _ _ g F R T HB1.out hp); clear hp k0 k1 k2) | (go_at_call 59; refine HE.out.mono ?_; rintro e w3 ⟨rfl, hfin, hkept, hbel⟩; rw [show extF P l1.length l2 (fstep comp l1.length l1.length).1 (rstep l2 l1.length l2.length).1 all (l1.length + 1) 0 (rstep l2 l1.length l2.length).2 ⟨budget, List.replicate l1.length 0, false, false, [], 0⟩ = _ from HST.out.symm] at hfin; obtain ⟨vS, q1, q2, q3⟩ := hfin; obtain ⟨As, cs, rfl⟩ := Kd.R_slice q3; have c6 := (blk_cell q1 6).trans rfl; have c8 := (blk_cell q1 8).trans rfl; have c9 := (blk_cell q1 9).trans rfl; have c10 := (blk_cell q1 10).trans rfl; have c11 := (blk_cell q1 11).trans rfl; have HRS := Aside0.mk q3; have HB3 := Aside0.mk (below_step HB1.out hbel); clear q1 q2 q3 hkept hbel))
       go_quiet (fail)
       go_wp2_with fail
       ((try simp only [Exit.inBlock, Exit.then]); refine bodyPost_ret (results_tmp4 rfl _ _ _) rfl ?_)
       exact ⟨_, by first | rfl | go_num, Kd.R_mono (Kd.R_lower (Kd.R_drewN HRS.out _) (below_size HB1.out)) (fun _ _ => trivial), pw_below_drewN HB3.out _⟩
      | false =>
       obtain ⟨rfl, rfl, rfl, rfl⟩ : ([] : List Int) = r1 ∧ (0 : Int) = r2 ∧ wrap64 (budget - left) = r3 ∧ (14 : Int) = r4 := by simpa [outF] using hout
       clear hout
       go_enter Try.func36, Try.ntmps36
       go_wp2_with (first | (go_at_call 57; refine (HCK.out _ (Kd.C_below HR1.out HB0.out) (Kd.C_below HR2.out HB0.out) _ HQ.out).mono ?_; rintro e w1 ⟨rfl, hd⟩; have hnb1 := blk_below HNB.out hd; obtain ⟨k0, k1, k2⟩ : w1.cell? ⟨w.heap.size, 0, none⟩ = some (.int .i64 P) ∧ w1.cell? ⟨w.heap.size, 1, none⟩ = some (.slice A1 l1.length c1) ∧ w1.cell? ⟨w.heap.size, 2, none⟩ = some (.slice A2 l2.length c2) := ⟨(blk_cell hnb1 0).trans rfl, (blk_cell hnb1 1).trans rfl, (blk_cell hnb1 2).trans rfl⟩; have HB1 := Aside0.mk (below_step HB0.out hd); clear hd hnb1) | (go_at_call 58; refine (HPREP.out _ HB1.out).mono ?_; rintro e w2 ⟨g, F, R, T, rfl, hp⟩; have HE := Aside0.mk (HEXT.out _ _ g F R T HB1.out hp); clear hp k0 k1 k2) | (go_at_call 59; refine HE.out.mono ?_; rintro e w3 ⟨rfl, hfin, hkept, hbel⟩; rw [show extF P l1.length l2 (fstep comp l1.length l1.length).1 (rstep l2 l1.length l2.length).1 all (l1.length + 1) 0 (rstep l2 l1.length l2.length).2 ⟨budget, List.replicate l1.length 0, false, false, [], 0⟩ = _ from HST.out.symm] at hfin; obtain ⟨vS, q1, q2, q3⟩ := hfin; obtain ⟨As, cs, rfl⟩ := Kd.R_slice q3; have c6 := (blk_cell q1 6).trans rfl; have c8 := (blk_cell q1 8).trans rfl; have c9 := (blk_cell q1 9).trans rfl; have c10 := (blk_cell q1 10).trans rfl; have c11 := (blk_cell q1 11).trans rfl; have HRS := Aside0.mk q3; have HB3 := Aside0.mk (below_step HB1.out hbel); clear q1 q2 q3 hkept hbel))
       go_quiet (fail)
       go_wp2_with fail
       ((try simp only [Exit.inBlock, Exit.then]); refine bodyPost_ret (results_tmp4 rfl _ _ _) rfl ?_)
       exact ⟨_, by first | rfl | go_num, Kd.R_nil _ _ _ _ _, pw_below_drewN HB3.out _⟩
    ·rw [if_neg hcl] at h'; exact absurd h' (by simp)
  ·rw [if_neg hbd] at h
   have h2 := Option.some.inj h
   simp only [Prod.mk.injEq] at h2
   obtain ⟨rfl, rfl, rfl, rfl⟩ := h2
   clear h hok hr1 hr2
   by_cases hlow : budget < 1
   ·have hbl : decide (budget < 1) = true := decide_eq_true hlow
    clear hbd
    go_enter Try.func36, Try.ntmps36
    go_wp2_with (go_at_call 57; refine (HCK.out _ (Kd.C_below HR1.out HB0.out) (Kd.C_below HR2.out HB0.out) _ HQ.out).mono ?_; rintro e w' ⟨rfl, hd⟩)
    ((try simp only [Exit.inBlock, Exit.then]); refine bodyPost_ret (results_tmp4 rfl _ _ _) rfl ?_)
    exact ⟨_, rfl, Kd.R_nil _ _ _ _ _, below_step HB0.out hd⟩
   ·have hhi : budget > 1048576 := by omega
    have hbg : decide (budget > 1048576) = true := decide_eq_true hhi
    clear hbd
    go_enter Try.func36, Try.ntmps36
    go_wp2_with (go_at_call 57; refine (HCK.out _ (Kd.C_below HR1.out HB0.out) (Kd.C_below HR2.out HB0.out) _ HQ.out).mono ?_; rintro e w' ⟨rfl, hd⟩)
    ((try simp only [Exit.inBlock, Exit.then]); refine bodyPost_ret (results_tmp4 rfl _ _ _) rfl ?_)
    exact ⟨_, rfl, Kd.R_nil _ _ _ _ _, below_step HB0.out hd⟩
 ·rw [if_neg hok] at h
  have h2 := Option.some.inj h
  simp only [Prod.mk.injEq] at h2
  obtain ⟨rfl, rfl, rfl, rfl⟩ := h2
  have HQ : Aside0 (network_Check.f P l1 l2 = some false) := ⟨by unfold network_Check.f; rw [Bool.eq_false_iff.2 hok]⟩
  clear h hok hr1 hr2
  go_enter Try.func36, Try.ntmps36
  go_wp2_with (go_at_call 57; refine (HCK.out _ (Kd.C_below HR1.out HB0.out) (Kd.C_below HR2.out HB0.out) _ HQ.out).mono ?_; rintro e w' ⟨rfl, hd⟩)
  ((try simp only [Exit.inBlock, Exit.then]); refine bodyPost_ret (results_tmp4 rfl _ _ _) rfl ?_)
  exact ⟨_, rfl, Kd.R_nil _ _ _ _ _, below_step HB0.out hd⟩

end Go.Proofs.Ytpioelilfhkfdaa.XAll
