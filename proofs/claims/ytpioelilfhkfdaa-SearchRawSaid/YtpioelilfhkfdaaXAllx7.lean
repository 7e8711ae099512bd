-- This session's own text, written by wip/tools/xall.py after the form of the kit's print.
import Derived.Test.YtpioelilfhkfdaaXAllx0
import Derived.Test.YtpioelilfhkfdaaXAllx5
import Derived.Test.YtpioelilfhkfdaaXAllx6
namespace Go.Proofs.Ytpioelilfhkfdaa.XAll
open Go.RowKit Go.Proofs.YtpioelilfhkfdaaW.PrintWords Go.Proofs.YtpioelilfhkfdaaW.PrintLast Go.Proofs.YtpioelilfhkfdaaW.PrintMore
attribute [local go_sem] max2_int min2_int max_two min_two max_three min_three max_four min_four   -- for this text's walks alone
set_option linter.unusedVariables false
set_option linter.unusedSimpArgs false

/-! ### search_finder_extend: function 59 -/
theorem C_blk {w : World} {T : Nat} {ts : List Int} (h : w.heap[T]? = some (.cells (ts.map (Value.int .i64)).toArray 3 (0, 0))) (hl : ts.length ≤ 9223372036854775807) : Kd.C (Kd.int .i64) w (some ⟨T, 0, none⟩) ts.length ts :=
 ⟨rfl, hl, fun _ => ⟨⟨T, 0, none⟩, rfl, fun j p hj => ⟨[.int .i64 p], rfl, rfl, fun i u hu => by
  obtain ⟨hi, e⟩ := List.getElem?_eq_some_iff.1 hu
  have hi0 : i = 0 := by simp at hi; exact hi
  subst hi0
  simp at e
  subst e
  rw [add_plain, qe h]
  simp [Kd.int, Kd.scalar, hj]⟩⟩⟩
/-- The finder at block g, its times at block T. -/
def FIN (w0 W : World) (g T : Nat) (P : Int) (n : Nat) (ac : List S62) (first : List Bool) (rdy : List (List Int)) (all : Bool) (AE Aa Af Ar : Option Addr) (cE ca cf cr : Nat) (st : St) : Prop :=
 ∃ vS : Value, W.heap[g]? = some (.cells #[.int .i64 P, .slice AE n cE, .slice Aa ac.length ca, .slice Af first.length cf, .slice Ar rdy.length cr, .bool all, .int .i64 st.left, .slice (some ⟨T, 0, none⟩) st.ts.length st.ts.length, .bool st.broken, .bool st.found, vS, .int .i64 st.cost] 103 (0, 0)) ∧
  W.heap[T]? = some (.cells (st.ts.map (Value.int .i64)).toArray 3 (0, 0)) ∧ Kd.R (Kd.int .i64) 3 W w0.heap.size (fun k => k ≠ g ∧ k ≠ T) vS st.res
theorem FIN.kept {w0 W W1 : World} {g T : Nat} {P : Int} {n : Nat} {ac : List S62} {first : List Bool} {rdy : List (List Int)} {all : Bool} {AE Aa Af Ar : Option Addr} {cE ca cf cr : Nat} {st : St} (h : FIN w0 W g T P n ac first rdy all AE Aa Af Ar cE ca cf cr st) (hb : Below W.heap.size W W1) : FIN w0 W1 g T P n ac first rdy all AE Aa Af Ar cE ca cf cr st := by
 obtain ⟨vS, h1, h2, h3⟩ := h
 exact ⟨vS, qaa h1 hb, qaa h2 hb, qae h3 hb⟩
/-- A trial's two stores: one step less is left, the time is laid. -/
theorem FIN.trial {w0 W : World} {g T : Nat} {P : Int} {n : Nat} {ac : List S62} {first : List Bool} {rdy : List (List Int)} {all : Bool} {AE Aa Af Ar : Option Addr} {cE ca cf cr : Nat} {st : St} (h : FIN w0 W g T P n ac first rdy all AE Aa Af Ar cE ca cf cr st) (hne : g ≠ T) (ev : Nat) (t : Int) :
  FIN w0 ((W.setCell ⟨g, 6, none⟩ (.int .i64 (st.left - 1))).setCell ⟨T, ev, none⟩ (.int .i64 t)) g T P n ac first rdy all AE Aa Af Ar cE ca cf cr { st with left := st.left - 1, ts := st.ts.set ev t } := by
 obtain ⟨vS, h1, h2, h3⟩ := h
 refine ⟨vS, ?_, ?_, ?_⟩
 ·have := qam (blk_set h1 6 (.int .i64 (st.left - 1))) (p := ⟨T, ev, none⟩) hne (.int .i64 t)
  simpa using this
 ·have := blk_set (qam h2 (p := ⟨g, 6, none⟩) (Ne.symm hne) (.int .i64 (st.left - 1))) ev (.int .i64 t)
  simpa [List.map_set] using this
 ·exact qz (p := ⟨T, ev, none⟩) (qz (p := ⟨g, 6, none⟩) h3 (fun k hk => hk.1) _) (fun k hk => hk.2) _
theorem FIN.brk {w0 W : World} {g T : Nat} {P : Int} {n : Nat} {ac : List S62} {first : List Bool} {rdy : List (List Int)} {all : Bool} {AE Aa Af Ar : Option Addr} {cE ca cf cr : Nat} {st : St} (h : FIN w0 W g T P n ac first rdy all AE Aa Af Ar cE ca cf cr st) (hne : g ≠ T) :
  FIN w0 (W.setCell ⟨g, 8, none⟩ (.bool true)) g T P n ac first rdy all AE Aa Af Ar cE ca cf cr { st with broken := true } := by
 obtain ⟨vS, h1, h2, h3⟩ := h
 refine ⟨vS, ?_, ?_, ?_⟩
 ·have := blk_set h1 8 (.bool true)
  simpa using this
 ·exact qam h2 (p := ⟨g, 8, none⟩) (Ne.symm hne) _
 ·exact qz (p := ⟨g, 8, none⟩) h3 (fun k hk => hk.1) _
def ExtPost (w0 W : World) (g T : Nat) (P : Int) (n : Nat) (ac : List S62) (first : List Bool) (rdy : List (List Int)) (all : Bool) (AE Aa Af Ar : Option Addr) (cE ca cf cr : Nat) (st : St) (e : Ending) (w' : World) : Prop :=
 e = .returned (.tuple #[]) ∧ FIN w0 w' g T P n ac first rdy all AE Aa Af Ar cE ca cf cr st ∧ Kept W w' (FS g T) ∧ Below w0.heap.size w0 w'
set_option maxHeartbeats 4000000 in
set_option maxRecDepth 100000 in
theorem ext_calls (w0 : World) (g T : Nat) (P : Int) (n : Nat) (ac : List S62) (first : List Bool) (rdy : List (List Int)) (all : Bool) (AE Aa Af Ar : Option Addr) (cE ca cf cr : Nat)
  (hP : 2 ≤ P ∧ P ≤ 7200) (hn : n ≤ 48) (hgood : ∀ a ∈ ac, GoodAct P n a) (hfl : first.length = n) (hrl : rdy.length = n) (hks : ∀ e : Nat, e < n → ∀ k ∈ rdL rdy (e : Int), 0 ≤ k ∧ k < (ac.length : Int)) (hlen : ∀ e : Nat, e < n → (rdL rdy (e : Int)).length ≤ 512) (hne : g ≠ T) (hg0 : w0.heap.size ≤ g) (hT0 : w0.heap.size ≤ T) (fuel : Nat) :
  ∀ (ev : Nat) (s : Int) (st : St) (W : World), ev ≤ n → ev + fuel = n + 1 → (-100000000000000 ≤ s ∧ s ≤ 100000000000000 + 3865470566400 * (ev : Int)) → Inv n st → FIN w0 W g T P n ac first rdy all AE Aa Af Ar cE ca cf cr st → Below w0.heap.size w0 W →
  (∀ W', Kept W W' (FS g T) → Kd.C k62 W' Aa ac.length ac) → (∀ W', Kept W W' (FS g T) → Kd.C Kd.bool W' Af first.length first) → (∀ W', Kept W W' (FS g T) → Kd.C (Kd.slice 3 (Kd.int .i64)) W' Ar rdy.length rdy) →
  Calls Try.prog 59 #[.pointer (some ⟨g, 0, none⟩), .int .i64 (ev : Int), .int .i64 s] W (ExtPost w0 W g T P n ac first rdy all AE Aa Af Ar cE ca cf cr (extF P n ac first rdy all fuel ev s st)) := by
 induction fuel with
 | zero =>
  intro ev s st W hle hf
  omega
 | succ fuel ih =>
  intro ev s st W hle hf hs hinv hfin hbel hac hfi hrd
  have HIH := qo ih
  have HINV := qo hinv
  have HFIN := qo hfin
  have HBEL := qo hbel
  have HAC := qo hac
  have HFI := qo hfi
  have HRD := qo hrd
  have HGOOD := qo hgood
  have HKS := qo hks
  have HLEN := qo hlen
  have HFL := qo hfl
  have HRL := qo hrl
  have HNE := qo hne
  obtain ⟨vS, hg, hT, hR⟩ := hfin
  obtain ⟨AS, cS, rfl⟩ := qak hR
  have HG := qo hg
  have HR := qo hR
  have g1 : W.cell? ⟨g, 1, none⟩ = some (.slice AE n cE) := (qe hg 1).trans rfl
  have hilen := hinv.len
  have HIL := qo hilen
  clear ih hinv hac hfi hrd hgood hks hlen hfl hrl hbel hR hilen hne hT
  have hunf : extF P n ac first rdy all (fuel + 1) ev s st = if ev = n then { st with found := true, cost := s, res := st.ts } else loopF (trialF P ac rdy all ev s (extF P n ac first rdy all fuel (ev + 1))) (if first.getD ev false = true then 1 else P.toNat) 0 st := rfl
  have HU := qo hunf
  clear hunf
  by_cases hevn : ev = n
  ·have c0 : ((ev : Int) == (n : Int)) = true := beq_iff_eq.2 (by omega)
   rw [if_pos hevn] at HU
   clear hevn
   obtain ⟨g7, g9, g10, g11⟩ : W.cell? ⟨g, 7, none⟩ = some (.slice (some ⟨T, 0, none⟩) st.ts.length st.ts.length) ∧ W.cell? ⟨g, 9, none⟩ = some (.bool st.found) ∧ W.cell? ⟨g, 10, none⟩ = some (.slice AS st.res.length cS) ∧ W.cell? ⟨g, 11, none⟩ = some (.int .i64 st.cost) := ⟨(qe hg 7).trans rfl, (qe hg 9).trans rfl, (qe hg 10).trans rfl, (qe hg 11).trans rfl⟩
   have f9 := qf hg 9
   have f11 := qf hg 11
   clear hg
   go_enter Try.func59, Try.ntmps59
   go_wp2_with fail
   generalize hWX : (W.setCell ⟨g, 9, none⟩ (.bool true)).setCell ⟨g, 11, none⟩ (.int .i64 s) = WX
   have hgX : WX.heap[g]? = some (.cells #[.int .i64 P, .slice AE n cE, .slice Aa ac.length ca, .slice Af first.length cf, .slice Ar rdy.length cr, .bool all, .int .i64 st.left, .slice (some ⟨T, 0, none⟩) st.ts.length st.ts.length, .bool st.broken, .bool true, .slice AS st.res.length cS, .int .i64 s] 103 (0, 0)) := by
    rw [← hWX]
    simpa using blk_set (blk_set HG.out 9 (.bool true)) 11 (.int .i64 s)
   have hTX : WX.heap[T]? = some (.cells (st.ts.map (Value.int .i64)).toArray 3 (0, 0)) := by
    rw [← hWX]
    obtain ⟨_, _, hT, _⟩ := HFIN.out
    exact qam (p := ⟨g, 11, none⟩) (qam (p := ⟨g, 9, none⟩) hT (Ne.symm HNE.out) _) (Ne.symm HNE.out) _
   have hkX : Kept W WX (FS g T) := by
    rw [← hWX]
    exact Kept.setCell (p := ⟨g, 11, none⟩) (Kept.setCell (p := ⟨g, 9, none⟩) (Kept.refl _ _) (.inl (.inl rfl)) _) (.inl (.inl rfl)) _
   have hbX : Below w0.heap.size w0 WX := by
    rw [← hWX]
    exact qn (qn HBEL.out hg0) hg0
   have hszX : WX.heap.size = W.heap.size := by rw [← hWX]; simp [World.setCell]
   clear hWX g1 g7 g9 g10 g11 f9 f11
   have HGX := qo hgX
   have HTX := qo hTX
   have HKX := qo hkX
   have HBX := qo hbX
   have hcl : slices_Clone_int_int.f st.ts = some st.ts := by
    unfold slices_Clone_int_int.f
    rw [if_pos (by rw [HIL.out]; omega)]
   have hCX := C_blk hTX (by rw [HIL.out]; omega)
   clear hgX hTX hkX hbX
   refine (slices_Clone_int_int.calls _ _ st.ts st.ts WX hCX (Nat.le_refl _) hcl).mono ?_
   rintro e w3 ⟨v3, rfl, hr3, hb3⟩
   obtain ⟨A3, c3, rfl⟩ := qak hr3
   have hg3 := qaa HGX.out hb3
   have k10 : w3.cell? ⟨g, 10, none⟩ = some (.slice AS st.res.length cS) := (qe hg3 10).trans rfl
   have f10 := qf hg3 10
   have HG3 := qo hg3
   have HR3 := qo hr3
   have HB3 := qo hb3
   clear hg3 hr3 hb3 hcl hCX
   go_wp2_with fail
   go_end0
   rw [HU.out]
   have hlt3 : ∀ k, (Value.slice A3 st.ts.length c3).ownBlock = some k → WX.heap.size ≤ k := Kd.R_base HR3.out
   have hgl : g < WX.heap.size := blk_lt HGX.out
   have hTl : T < WX.heap.size := blk_lt HTX.out
   refine ⟨rfl, ⟨.slice A3 st.ts.length c3, ?_, ?_, ?_⟩, ?_, ?_⟩
   ·simpa using blk_set HG3.out 10 (.slice A3 st.ts.length c3)
   ·exact qam (p := ⟨g, 10, none⟩) (qaa HTX.out HB3.out) (Ne.symm HNE.out) _
   ·refine qz (p := ⟨g, 10, none⟩) ?_ (fun k hk => hk.1) _
    refine qag (qy (Kd.R_bound HR3.out) (fun k hk => ⟨by have := hk.2.1; omega, by have := hk.2.1; omega⟩)) HBX.out.size
   ·exact Kept.setCell (p := ⟨g, 10, none⟩) (Kept.below HKX.out HB3.out) (.inl (.inl rfl)) _
   ·exact qn (qt HBX.out HB3.out) hg0
  ·have c0 : ((ev : Int) == (n : Int)) = false := beq_eq_false_iff_ne.2 (by omega)
   rw [if_neg hevn] at HU
   have hlt : ev < n := by omega
   clear hevn
   obtain ⟨af, rfl, hfc⟩ := Kd.at_bool (HFI.out W (Kept.refl _ _)) (ev : Int) (by omega) (by have := HFL.out; omega)
   rw [Int.toNat_natCast, show rdOf false first (ev : Int) = first.getD ev false by unfold rdOf; rw [Int.toNat_natCast]] at hfc
   have hfl : (ev : Int) < (first.length : Int) := by have := HFL.out; omega
   obtain ⟨g0, g3⟩ : W.cell? ⟨g, 0, none⟩ = some (.int .i64 P) ∧ W.cell? ⟨g, 3, none⟩ = some (.slice (some af) first.length cf) := ⟨(qe hg 0).trans rfl, (qe hg 3).trans rfl⟩
   clear hg
   obtain ⟨N, hN⟩ : ∃ N : Nat, N = (if first.getD ev false = true then 1 else P.toNat) := ⟨_, rfl⟩
   rw [← hN] at HU
   have hNP : (N : Int) ≤ P := by rw [hN]; split <;> omega
   obtain ⟨TR, hTR⟩ : ∃ TR, TR = trialF P ac rdy all ev s (extF P n ac first rdy all fuel (ev + 1)) := ⟨_, rfl⟩
   rw [← hTR] at HU
   have HTR := qo hTR
   clear hTR
   have hP1 := hP.1
   have hP2 := hP.2
   have hs1 := hs.1
   have hs2 := hs.2
   have HP := qo hP
   have HSB := qo hs
   clear hP hs
   cases hb : first.getD ev false with
   | true =>
    rw [hb] at hfc
    rw [hb, if_pos rfl] at hN
    have hn1 : N ≤ 1 := by omega
    have hn2 : 1 ≤ N := by omega
    clear hN hb
    go_enter Try.func59, Try.ntmps59
    go_wp2_with fail
    go_loopg [46] N (fun kq v46 w' => ∃ (t : Nat) (st1 : St), v46 = .int .i64 t ∧ Aside0 (t + kq = N) ∧ Aside0 (loopF TR (N - t) (t : Int) st1 = loopF TR N 0 st) ∧ Aside0 (Inv n st1) ∧ Aside0 (FIN w0 w' g T P n ac first rdy all AE Aa (some af) Ar cE ca cf cr st1) ∧ Aside0 (Kept W w' (FS g T)) ∧ Aside0 (Below w0.heap.size w0 w'))
    case atStart => exact ⟨0, st, rfl, ⟨by omega⟩, ⟨rfl⟩, HINV, HFIN, ⟨Kept.refl _ _⟩, HBEL⟩
    case round =>
     obtain ⟨t, st1, rfl, HK, HL, HI1, HF1, HKE, HB1⟩ := hrel
     have htN : t ≤ N := by have := HK.out; omega
     obtain ⟨vS1, hg, hT, hR⟩ := HF1.out
     obtain ⟨AS1, cS1, rfl⟩ := qak hR
     have HG1 := qo hg
     clear hT hR
     by_cases hlt2 : t < N
     ·have hls : loopF TR (N - t) (t : Int) st1 = if (TR (t : Int) st1).2 = true then (TR (t : Int) st1).1 else loopF TR (N - (t + 1)) (((t + 1 : Nat) : Int)) (TR (t : Int) st1).1 := by
       rw [show N - t = (N - (t + 1)) + 1 by omega]
       simp only [loopF]
       rfl
      have HLS := qo hls
      clear hls
      have g6 : wr.cell? ⟨g, 6, none⟩ = some (.int .i64 st1.left) := (qe hg 6).trans rfl
      have hl0 := HI1.out.left.1
      have hl1 := HI1.out.left.2
      by_cases hz : st1.left = 0
      ·have hzb : (st1.left == 0) = true := beq_iff_eq.2 hz
       have g8 : wr.cell? ⟨g, 8, none⟩ = some (.bool st1.broken) := (qe hg 8).trans rfl
       have f8 := qf hg 8
       have htr : TR (t : Int) st1 = ({ st1 with broken := true }, true) := by rw [HTR.out]; unfold trialF; rw [if_pos hz]
       have HTT := qo htr
       clear htr hg hz
       go_wp2_with fail
       go_end0
       rw [HU.out, ← HL.out, HLS.out, HTT.out]
       exact ⟨rfl, FIN.brk HF1.out HNE.out, Kept.setCell (p := ⟨g, 8, none⟩) HKE.out (.inl (.inl rfl)) _, qn HB1.out hg0⟩
      ·have hzb : (st1.left == 0) = false := beq_eq_false_iff_ne.2 hz
       have HZ := qo hz
       have g7 : wr.cell? ⟨g, 7, none⟩ = some (.slice (some ⟨T, 0, none⟩) st1.ts.length st1.ts.length) := (qe hg 7).trans rfl
       have f6 := qf hg 6
       have hevl : (ev : Int) < (st1.ts.length : Int) := by have := HI1.out.len; omega
       have hevn : ev < st1.ts.length := by omega
       obtain ⟨_, _, hT2, _⟩ := HF1.out
       have tc := ints_cell hT2 (ev : Int) (by omega) hevl
       rw [Int.toNat_natCast] at tc
       have ft := qf hT2 ev
       have hgT : ¬ g = T := HNE.out
       have hTg : ¬ T = g := Ne.symm HNE.out
       clear hz hg hT2
       go_wp2_with fail
       generalize hW2 : (wr.setCell ⟨g, 6, none⟩ (.int .i64 (st1.left - 1))).setCell ⟨T, ev, none⟩ (.int .i64 (t : Int)) = W2
       obtain ⟨st2, hst2⟩ : ∃ st2 : St, st2 = { st1 with left := st1.left - 1, ts := st1.ts.set ev (t : Int) } := ⟨_, rfl⟩
       have hf2 : FIN w0 W2 g T P n ac first rdy all AE Aa (some af) Ar cE ca cf cr st2 := by rw [← hW2, hst2]; exact FIN.trial HF1.out HNE.out ev (t : Int)
       have hi2 : Inv n st2 := by rw [hst2]; exact HI1.out.trial hlt (by omega) HZ.out
       have hk2 : Kept W W2 (FS g T) := by rw [← hW2]; exact Kept.setCell (p := ⟨T, ev, none⟩) (Kept.setCell (p := ⟨g, 6, none⟩) HKE.out (.inl (.inl rfl)) _) (.inl (.inr rfl)) _
       have hb2 : Below w0.heap.size w0 W2 := by rw [← hW2]; exact qn (qn HB1.out hg0) hT0
       have htr2 : TR (t : Int) st1 = match fitsF P ac st2.ts (rdL rdy (ev : Int)) s with
         | none => (st2, false)
         | some nx => if st2.found = true ∧ nx ≥ st2.cost then (st2, false) else (extF P n ac first rdy all fuel (ev + 1) nx st2, (extF P n ac first rdy all fuel (ev + 1) nx st2).broken || ((extF P n ac first rdy all fuel (ev + 1) nx st2).found && !all)) := by
        rw [HTR.out]; unfold trialF; rw [if_neg HZ.out, hst2]; try rfl
       have HTT := qo htr2
       clear htr2 hW2 hst2 tc ft g6 g7 f6 hevl hevn hl0 hl1 hzb
       have HF2 := qo hf2
       have HI2 := qo hi2
       have HK2 := qo hk2
       have HB2 := qo hb2
       obtain ⟨vS2, hg2, hT2, hR2⟩ := hf2
       have hfc := fits_calls P ac st2.ts rdy g T _ _ vS2 Aa Ar ca cr _ all _ _ _ _ W2 ev s hg2 hT2 (Kd.C_kept_step HAC.out HK2.out) (Kd.C_kept_step HRD.out HK2.out) (by have := HRL.out; omega) HP.out (by rw [HI2.out.len]; exact HGOOD.out) (by rw [HI2.out.len]; exact HI2.out.ts) (HKS.out ev hlt) (HLEN.out ev hlt) (by omega)
       clear hg2 hT2 hR2 hi2 hk2 hb2
       cases hfit : fitsF P ac st2.ts (rdL rdy (ev : Int)) s with
       | none =>
        rw [hfit] at hfc HTT
        simp only [Option.getD_none, Option.isSome_none] at hfc HTT
        clear hfit
        refine hfc.mono ?_
        rintro e w3 ⟨rfl, hb3⟩
        have HB3 := qo hb3
        clear hb3 hfc
        go_wp2_with fail
        go_roundg (gk - 1)
        case measure => have := HK.out; omega
        case rel => exact ⟨t + 1, st2, by go_num, ⟨by have := HK.out; omega⟩, ⟨by rw [← HL.out, HLS.out, HTT.out]; rfl⟩, HI2, ⟨FIN.kept HF2.out HB3.out⟩, ⟨Kept.below HK2.out HB3.out⟩, ⟨qt HB2.out HB3.out⟩⟩
       | some nx =>
        have hnb := fitsF_bd HP.out HGOOD.out (rdL rdy (ev : Int)) s nx (HKS.out ev hlt) hfit
        have hlb := HLEN.out ev hlt
        have hnb1 : -100000000000000 ≤ nx := by omega
        have hnb2 : nx ≤ 100000000000000 + 3865470566400 * ((ev + 1 : Nat) : Int) := by omega
        rw [hfit] at hfc HTT
        simp only [Option.getD_some, Option.isSome_some] at hfc HTT
        clear hfit hnb hlb
        refine hfc.mono ?_
        rintro e w3 ⟨rfl, hb3⟩
        have HF3 := qo (FIN.kept HF2.out hb3)
        have HK3 := qo (Kept.below HK2.out hb3)
        have HB3 := qo (qt HB2.out hb3)
        clear hb3 hfc HF2 HK2 HB2
        obtain ⟨vS3, hg3, hT3, hR3⟩ := HF3.out
        have k9 : w3.cell? ⟨g, 9, none⟩ = some (.bool st2.found) := (qe hg3 9).trans rfl
        have k11 : w3.cell? ⟨g, 11, none⟩ = some (.int .i64 st2.cost) := (qe hg3 11).trans rfl
        clear hg3 hT3 hR3
        by_cases hskip : st2.found = true ∧ nx ≥ st2.cost
        ·rw [if_pos hskip] at HTT
         obtain ⟨hs3, hs4⟩ := hskip
         rw [hs3] at k9
         clear hs3
         go_wp2_with fail
         go_roundg (gk - 1)
         case measure => have := HK.out; omega
         case rel => exact ⟨t + 1, st2, by go_num, ⟨by have := HK.out; omega⟩, ⟨by rw [← HL.out, HLS.out, HTT.out]; rfl⟩, HI2, HF3, HK3, HB3⟩
        ·rw [if_neg hskip] at HTT
         have HSK := qo hskip
         clear hskip
         have hih := HIH.out (ev + 1) nx st2 w3 (by omega) (by omega) ⟨hnb1, hnb2⟩ HI2.out HF3.out HB3.out (Kd.C_kept_step HAC.out HK3.out) (Kd.C_kept_step HFI.out HK3.out) (Kd.C_kept_step HRD.out HK3.out)
         rw [show (((ev + 1 : Nat)) : Int) = (ev : Int) + 1 by omega] at hih
         have HIV := qo (extF_inv (ac := ac) (first := first) (rdy := rdy) (all := all) HP.out fuel (ev + 1) nx st2 (by omega) HI2.out)
         generalize hst4 : extF P n ac first rdy all fuel (ev + 1) nx st2 = st4 at *
         clear hst4
         have HH := qo hih
         clear hih
         have fin : ∀ (b : Bool), b = st2.found → (b = true → nx < st2.cost) := by
          intro b hb hbt
          rw [hb] at hbt
          have := HSK.out
          by_cases h : nx ≥ st2.cost
          ·exact absurd ⟨hbt, h⟩ this
          ·omega
         cases hfb : st2.found with
         | true =>
          have hlt5 := fin true hfb.symm rfl
          rw [hfb] at k9
          clear fin hfb
          go_wp2_with fail
          refine HH.out.mono ?_
          rintro e w4 ⟨rfl, hf4, hk4, hb4⟩
          have HF4 := qo hf4
          have HK4 := qo (HK3.out.then_ hk4 (fun _ h => .inl h))
          have HB4 := qo hb4
          obtain ⟨vS4, hg4, hT4, hR4⟩ := hf4
          have m8 : w4.cell? ⟨g, 8, none⟩ = some (.bool st4.broken) := (qe hg4 8).trans rfl
          have m9 : w4.cell? ⟨g, 9, none⟩ = some (.bool st4.found) := (qe hg4 9).trans rfl
          have m5 : w4.cell? ⟨g, 5, none⟩ = some (.bool all) := (qe hg4 5).trans rfl
          clear hg4 hT4 hR4 hk4 hb4 k9 k11
          by_cases hstop : (st4.broken || (st4.found && !all)) = true
          ·rw [hstop] at HTT
           cases hbb : st4.broken with
           | true =>
            rw [hbb] at m8
            clear hbb hstop
            go_wp2_with fail
            go_end0
            rw [HU.out, ← HL.out, HLS.out, HTT.out]
            exact ⟨rfl, HF4.out, HK4.out, HB4.out⟩
           | false =>
            rw [hbb] at m8 hstop
            obtain ⟨hfb, hab⟩ : st4.found = true ∧ all = false := by simpa using hstop
            rw [hfb] at m9
            rw [hab] at m5
            clear hbb hfb hab hstop
            go_wp2_with fail
            go_end0
            rw [HU.out, ← HL.out, HLS.out, HTT.out]
            exact ⟨rfl, HF4.out, HK4.out, HB4.out⟩
          ·have hstop' : (st4.broken || (st4.found && !all)) = false := by simpa using hstop
           rw [hstop'] at HTT
           clear hstop
           obtain ⟨hbb, hfa⟩ : st4.broken = false ∧ (st4.found = false ∨ all = true) := by
            rw [Bool.or_eq_false_iff] at hstop'
            refine ⟨hstop'.1, ?_⟩
            have := hstop'.2
            cases hx : st4.found
            ·exact .inl rfl
            ·rw [hx] at this
             exact .inr (by simpa using this)
           clear hstop'
           rw [hbb] at m8
           clear hbb
           rcases hfa with hfb | hab
           ·rw [hfb] at m9
            clear hfb
            go_wp2_with fail
            go_roundg (gk - 1)
            case measure => have := HK.out; omega
            case rel => exact ⟨t + 1, st4, by go_num, ⟨by have := HK.out; omega⟩, ⟨by rw [← HL.out, HLS.out, HTT.out]; rfl⟩, HIV, HF4, HK4, HB4⟩
           ·rw [hab] at m5
            clear hab
            cases hfb : st4.found with
            | true =>
             rw [hfb] at m9
             clear hfb
             go_wp2_with fail
             go_roundg (gk - 1)
             case measure => have := HK.out; omega
             case rel => exact ⟨t + 1, st4, by go_num, ⟨by have := HK.out; omega⟩, ⟨by rw [← HL.out, HLS.out, HTT.out]; rfl⟩, HIV, HF4, HK4, HB4⟩
            | false =>
             rw [hfb] at m9
             clear hfb
             go_wp2_with fail
             go_roundg (gk - 1)
             case measure => have := HK.out; omega
             case rel => exact ⟨t + 1, st4, by go_num, ⟨by have := HK.out; omega⟩, ⟨by rw [← HL.out, HLS.out, HTT.out]; rfl⟩, HIV, HF4, HK4, HB4⟩
         | false =>
          rw [hfb] at k9
          clear fin hfb
          go_wp2_with fail
          refine HH.out.mono ?_
          rintro e w4 ⟨rfl, hf4, hk4, hb4⟩
          have HF4 := qo hf4
          have HK4 := qo (HK3.out.then_ hk4 (fun _ h => .inl h))
          have HB4 := qo hb4
          obtain ⟨vS4, hg4, hT4, hR4⟩ := hf4
          have m8 : w4.cell? ⟨g, 8, none⟩ = some (.bool st4.broken) := (qe hg4 8).trans rfl
          have m9 : w4.cell? ⟨g, 9, none⟩ = some (.bool st4.found) := (qe hg4 9).trans rfl
          have m5 : w4.cell? ⟨g, 5, none⟩ = some (.bool all) := (qe hg4 5).trans rfl
          clear hg4 hT4 hR4 hk4 hb4 k9 k11
          by_cases hstop : (st4.broken || (st4.found && !all)) = true
          ·rw [hstop] at HTT
           cases hbb : st4.broken with
           | true =>
            rw [hbb] at m8
            clear hbb hstop
            go_wp2_with fail
            go_end0
            rw [HU.out, ← HL.out, HLS.out, HTT.out]
            exact ⟨rfl, HF4.out, HK4.out, HB4.out⟩
           | false =>
            rw [hbb] at m8 hstop
            obtain ⟨hfb, hab⟩ : st4.found = true ∧ all = false := by simpa using hstop
            rw [hfb] at m9
            rw [hab] at m5
            clear hbb hfb hab hstop
            go_wp2_with fail
            go_end0
            rw [HU.out, ← HL.out, HLS.out, HTT.out]
            exact ⟨rfl, HF4.out, HK4.out, HB4.out⟩
          ·have hstop' : (st4.broken || (st4.found && !all)) = false := by simpa using hstop
           rw [hstop'] at HTT
           clear hstop
           obtain ⟨hbb, hfa⟩ : st4.broken = false ∧ (st4.found = false ∨ all = true) := by
            rw [Bool.or_eq_false_iff] at hstop'
            refine ⟨hstop'.1, ?_⟩
            have := hstop'.2
            cases hx : st4.found
            ·exact .inl rfl
            ·rw [hx] at this
             exact .inr (by simpa using this)
           clear hstop'
           rw [hbb] at m8
           clear hbb
           rcases hfa with hfb | hab
           ·rw [hfb] at m9
            clear hfb
            go_wp2_with fail
            go_roundg (gk - 1)
            case measure => have := HK.out; omega
            case rel => exact ⟨t + 1, st4, by go_num, ⟨by have := HK.out; omega⟩, ⟨by rw [← HL.out, HLS.out, HTT.out]; rfl⟩, HIV, HF4, HK4, HB4⟩
           ·rw [hab] at m5
            clear hab
            cases hfb : st4.found with
            | true =>
             rw [hfb] at m9
             clear hfb
             go_wp2_with fail
             go_roundg (gk - 1)
             case measure => have := HK.out; omega
             case rel => exact ⟨t + 1, st4, by go_num, ⟨by have := HK.out; omega⟩, ⟨by rw [← HL.out, HLS.out, HTT.out]; rfl⟩, HIV, HF4, HK4, HB4⟩
            | false =>
             rw [hfb] at m9
             clear hfb
             go_wp2_with fail
             go_roundg (gk - 1)
             case measure => have := HK.out; omega
             case rel => exact ⟨t + 1, st4, by go_num, ⟨by have := HK.out; omega⟩, ⟨by rw [← HL.out, HLS.out, HTT.out]; rfl⟩, HIV, HF4, HK4, HB4⟩
     ·go_wp2_with fail
      go_end0
      have htN' : t = N := by omega
      rw [HU.out, ← HL.out, htN', Nat.sub_self]
      exact ⟨rfl, HF1.out, HKE.out, HB1.out⟩
   | false =>
    rw [hb] at hfc
    rw [hb, if_neg (by simp)] at hN
    have hn1 : (N : Int) ≤ P := by omega
    have hn2 : P ≤ (N : Int) := by omega
    clear hN hb
    go_enter Try.func59, Try.ntmps59
    go_wp2_with fail
    go_loopg [46] N (fun kq v46 w' => ∃ (t : Nat) (st1 : St), v46 = .int .i64 t ∧ Aside0 (t + kq = N) ∧ Aside0 (loopF TR (N - t) (t : Int) st1 = loopF TR N 0 st) ∧ Aside0 (Inv n st1) ∧ Aside0 (FIN w0 w' g T P n ac first rdy all AE Aa (some af) Ar cE ca cf cr st1) ∧ Aside0 (Kept W w' (FS g T)) ∧ Aside0 (Below w0.heap.size w0 w'))
    case atStart => exact ⟨0, st, rfl, ⟨by omega⟩, ⟨rfl⟩, HINV, HFIN, ⟨Kept.refl _ _⟩, HBEL⟩
    case round =>
     obtain ⟨t, st1, rfl, HK, HL, HI1, HF1, HKE, HB1⟩ := hrel
     have htN : t ≤ N := by have := HK.out; omega
     obtain ⟨vS1, hg, hT, hR⟩ := HF1.out
     obtain ⟨AS1, cS1, rfl⟩ := qak hR
     have HG1 := qo hg
     clear hT hR
     by_cases hlt2 : t < N
     ·have hls : loopF TR (N - t) (t : Int) st1 = if (TR (t : Int) st1).2 = true then (TR (t : Int) st1).1 else loopF TR (N - (t + 1)) (((t + 1 : Nat) : Int)) (TR (t : Int) st1).1 := by
       rw [show N - t = (N - (t + 1)) + 1 by omega]
       simp only [loopF]
       rfl
      have HLS := qo hls
      clear hls
      have g6 : wr.cell? ⟨g, 6, none⟩ = some (.int .i64 st1.left) := (qe hg 6).trans rfl
      have hl0 := HI1.out.left.1
      have hl1 := HI1.out.left.2
      by_cases hz : st1.left = 0
      ·have hzb : (st1.left == 0) = true := beq_iff_eq.2 hz
       have g8 : wr.cell? ⟨g, 8, none⟩ = some (.bool st1.broken) := (qe hg 8).trans rfl
       have f8 := qf hg 8
       have htr : TR (t : Int) st1 = ({ st1 with broken := true }, true) := by rw [HTR.out]; unfold trialF; rw [if_pos hz]
       have HTT := qo htr
       clear htr hg hz
       go_wp2_with fail
       go_end0
       rw [HU.out, ← HL.out, HLS.out, HTT.out]
       exact ⟨rfl, FIN.brk HF1.out HNE.out, Kept.setCell (p := ⟨g, 8, none⟩) HKE.out (.inl (.inl rfl)) _, qn HB1.out hg0⟩
      ·have hzb : (st1.left == 0) = false := beq_eq_false_iff_ne.2 hz
       have HZ := qo hz
       have g7 : wr.cell? ⟨g, 7, none⟩ = some (.slice (some ⟨T, 0, none⟩) st1.ts.length st1.ts.length) := (qe hg 7).trans rfl
       have f6 := qf hg 6
       have hevl : (ev : Int) < (st1.ts.length : Int) := by have := HI1.out.len; omega
       have hevn : ev < st1.ts.length := by omega
       obtain ⟨_, _, hT2, _⟩ := HF1.out
       have tc := ints_cell hT2 (ev : Int) (by omega) hevl
       rw [Int.toNat_natCast] at tc
       have ft := qf hT2 ev
       have hgT : ¬ g = T := HNE.out
       have hTg : ¬ T = g := Ne.symm HNE.out
       clear hz hg hT2
       go_wp2_with fail
       generalize hW2 : (wr.setCell ⟨g, 6, none⟩ (.int .i64 (st1.left - 1))).setCell ⟨T, ev, none⟩ (.int .i64 (t : Int)) = W2
       obtain ⟨st2, hst2⟩ : ∃ st2 : St, st2 = { st1 with left := st1.left - 1, ts := st1.ts.set ev (t : Int) } := ⟨_, rfl⟩
       have hf2 : FIN w0 W2 g T P n ac first rdy all AE Aa (some af) Ar cE ca cf cr st2 := by rw [← hW2, hst2]; exact FIN.trial HF1.out HNE.out ev (t : Int)
       have hi2 : Inv n st2 := by rw [hst2]; exact HI1.out.trial hlt (by omega) HZ.out
       have hk2 : Kept W W2 (FS g T) := by rw [← hW2]; exact Kept.setCell (p := ⟨T, ev, none⟩) (Kept.setCell (p := ⟨g, 6, none⟩) HKE.out (.inl (.inl rfl)) _) (.inl (.inr rfl)) _
       have hb2 : Below w0.heap.size w0 W2 := by rw [← hW2]; exact qn (qn HB1.out hg0) hT0
       have htr2 : TR (t : Int) st1 = match fitsF P ac st2.ts (rdL rdy (ev : Int)) s with
         | none => (st2, false)
         | some nx => if st2.found = true ∧ nx ≥ st2.cost then (st2, false) else (extF P n ac first rdy all fuel (ev + 1) nx st2, (extF P n ac first rdy all fuel (ev + 1) nx st2).broken || ((extF P n ac first rdy all fuel (ev + 1) nx st2).found && !all)) := by
        rw [HTR.out]; unfold trialF; rw [if_neg HZ.out, hst2]; try rfl
       have HTT := qo htr2
       clear htr2 hW2 hst2 tc ft g6 g7 f6 hevl hevn hl0 hl1 hzb
       have HF2 := qo hf2
       have HI2 := qo hi2
       have HK2 := qo hk2
       have HB2 := qo hb2
       obtain ⟨vS2, hg2, hT2, hR2⟩ := hf2
       have hfc := fits_calls P ac st2.ts rdy g T _ _ vS2 Aa Ar ca cr _ all _ _ _ _ W2 ev s hg2 hT2 (Kd.C_kept_step HAC.out HK2.out) (Kd.C_kept_step HRD.out HK2.out) (by have := HRL.out; omega) HP.out (by rw [HI2.out.len]; exact HGOOD.out) (by rw [HI2.out.len]; exact HI2.out.ts) (HKS.out ev hlt) (HLEN.out ev hlt) (by omega)
       clear hg2 hT2 hR2 hi2 hk2 hb2
       cases hfit : fitsF P ac st2.ts (rdL rdy (ev : Int)) s with
       | none =>
        rw [hfit] at hfc HTT
        simp only [Option.getD_none, Option.isSome_none] at hfc HTT
        clear hfit
        refine hfc.mono ?_
        rintro e w3 ⟨rfl, hb3⟩
        have HB3 := qo hb3
        clear hb3 hfc
        go_wp2_with fail
        go_roundg (gk - 1)
        case measure => have := HK.out; omega
        case rel => exact ⟨t + 1, st2, by go_num, ⟨by have := HK.out; omega⟩, ⟨by rw [← HL.out, HLS.out, HTT.out]; rfl⟩, HI2, ⟨FIN.kept HF2.out HB3.out⟩, ⟨Kept.below HK2.out HB3.out⟩, ⟨qt HB2.out HB3.out⟩⟩
       | some nx =>
        have hnb := fitsF_bd HP.out HGOOD.out (rdL rdy (ev : Int)) s nx (HKS.out ev hlt) hfit
        have hlb := HLEN.out ev hlt
        have hnb1 : -100000000000000 ≤ nx := by omega
        have hnb2 : nx ≤ 100000000000000 + 3865470566400 * ((ev + 1 : Nat) : Int) := by omega
        rw [hfit] at hfc HTT
        simp only [Option.getD_some, Option.isSome_some] at hfc HTT
        clear hfit hnb hlb
        refine hfc.mono ?_
        rintro e w3 ⟨rfl, hb3⟩
        have HF3 := qo (FIN.kept HF2.out hb3)
        have HK3 := qo (Kept.below HK2.out hb3)
        have HB3 := qo (qt HB2.out hb3)
        clear hb3 hfc HF2 HK2 HB2
        obtain ⟨vS3, hg3, hT3, hR3⟩ := HF3.out
        have k9 : w3.cell? ⟨g, 9, none⟩ = some (.bool st2.found) := (qe hg3 9).trans rfl
        have k11 : w3.cell? ⟨g, 11, none⟩ = some (.int .i64 st2.cost) := (qe hg3 11).trans rfl
        clear hg3 hT3 hR3
        by_cases hskip : st2.found = true ∧ nx ≥ st2.cost
        ·rw [if_pos hskip] at HTT
         obtain ⟨hs3, hs4⟩ := hskip
         rw [hs3] at k9
         clear hs3
         go_wp2_with fail
         go_roundg (gk - 1)
         case measure => have := HK.out; omega
         case rel => exact ⟨t + 1, st2, by go_num, ⟨by have := HK.out; omega⟩, ⟨by rw [← HL.out, HLS.out, HTT.out]; rfl⟩, HI2, HF3, HK3, HB3⟩
        ·rw [if_neg hskip] at HTT
         have HSK := qo hskip
         clear hskip
         have hih := HIH.out (ev + 1) nx st2 w3 (by omega) (by omega) ⟨hnb1, hnb2⟩ HI2.out HF3.out HB3.out (Kd.C_kept_step HAC.out HK3.out) (Kd.C_kept_step HFI.out HK3.out) (Kd.C_kept_step HRD.out HK3.out)
         rw [show (((ev + 1 : Nat)) : Int) = (ev : Int) + 1 by omega] at hih
         have HIV := qo (extF_inv (ac := ac) (first := first) (rdy := rdy) (all := all) HP.out fuel (ev + 1) nx st2 (by omega) HI2.out)
         generalize hst4 : extF P n ac first rdy all fuel (ev + 1) nx st2 = st4 at *
         clear hst4
         have HH := qo hih
         clear hih
         have fin : ∀ (b : Bool), b = st2.found → (b = true → nx < st2.cost) := by
          intro b hb hbt
          rw [hb] at hbt
          have := HSK.out
          by_cases h : nx ≥ st2.cost
          ·exact absurd ⟨hbt, h⟩ this
          ·omega
         cases hfb : st2.found with
         | true =>
          have hlt5 := fin true hfb.symm rfl
          rw [hfb] at k9
          clear fin hfb
          go_wp2_with fail
          refine HH.out.mono ?_
          rintro e w4 ⟨rfl, hf4, hk4, hb4⟩
          have HF4 := qo hf4
          have HK4 := qo (HK3.out.then_ hk4 (fun _ h => .inl h))
          have HB4 := qo hb4
          obtain ⟨vS4, hg4, hT4, hR4⟩ := hf4
          have m8 : w4.cell? ⟨g, 8, none⟩ = some (.bool st4.broken) := (qe hg4 8).trans rfl
          have m9 : w4.cell? ⟨g, 9, none⟩ = some (.bool st4.found) := (qe hg4 9).trans rfl
          have m5 : w4.cell? ⟨g, 5, none⟩ = some (.bool all) := (qe hg4 5).trans rfl
          clear hg4 hT4 hR4 hk4 hb4 k9 k11
          by_cases hstop : (st4.broken || (st4.found && !all)) = true
          ·rw [hstop] at HTT
           cases hbb : st4.broken with
           | true =>
            rw [hbb] at m8
            clear hbb hstop
            go_wp2_with fail
            go_end0
            rw [HU.out, ← HL.out, HLS.out, HTT.out]
            exact ⟨rfl, HF4.out, HK4.out, HB4.out⟩
           | false =>
            rw [hbb] at m8 hstop
            obtain ⟨hfb, hab⟩ : st4.found = true ∧ all = false := by simpa using hstop
            rw [hfb] at m9
            rw [hab] at m5
            clear hbb hfb hab hstop
            go_wp2_with fail
            go_end0
            rw [HU.out, ← HL.out, HLS.out, HTT.out]
            exact ⟨rfl, HF4.out, HK4.out, HB4.out⟩
          ·have hstop' : (st4.broken || (st4.found && !all)) = false := by simpa using hstop
           rw [hstop'] at HTT
           clear hstop
           obtain ⟨hbb, hfa⟩ : st4.broken = false ∧ (st4.found = false ∨ all = true) := by
            rw [Bool.or_eq_false_iff] at hstop'
            refine ⟨hstop'.1, ?_⟩
            have := hstop'.2
            cases hx : st4.found
            ·exact .inl rfl
            ·rw [hx] at this
             exact .inr (by simpa using this)
           clear hstop'
           rw [hbb] at m8
           clear hbb
           rcases hfa with hfb | hab
           ·rw [hfb] at m9
            clear hfb
            go_wp2_with fail
            go_roundg (gk - 1)
            case measure => have := HK.out; omega
            case rel => exact ⟨t + 1, st4, by go_num, ⟨by have := HK.out; omega⟩, ⟨by rw [← HL.out, HLS.out, HTT.out]; rfl⟩, HIV, HF4, HK4, HB4⟩
           ·rw [hab] at m5
            clear hab
            cases hfb : st4.found with
            | true =>
             rw [hfb] at m9
             clear hfb
             go_wp2_with fail
             go_roundg (gk - 1)
             case measure => have := HK.out; omega
             case rel => exact ⟨t + 1, st4, by go_num, ⟨by have := HK.out; omega⟩, ⟨by rw [← HL.out, HLS.out, HTT.out]; rfl⟩, HIV, HF4, HK4, HB4⟩
            | false =>
             rw [hfb] at m9
             clear hfb
             go_wp2_with fail
             go_roundg (gk - 1)
             case measure => have := HK.out; omega
             case rel => exact ⟨t + 1, st4, by go_num, ⟨by have := HK.out; omega⟩, ⟨by rw [← HL.out, HLS.out, HTT.out]; rfl⟩, HIV, HF4, HK4, HB4⟩
         | false =>
          rw [hfb] at k9
          clear fin hfb
          go_wp2_with fail
          refine HH.out.mono ?_
          rintro e w4 ⟨rfl, hf4, hk4, hb4⟩
          have HF4 := qo hf4
          have HK4 := qo (HK3.out.then_ hk4 (fun _ h => .inl h))
          have HB4 := qo hb4
          obtain ⟨vS4, hg4, hT4, hR4⟩ := hf4
          have m8 : w4.cell? ⟨g, 8, none⟩ = some (.bool st4.broken) := (qe hg4 8).trans rfl
          have m9 : w4.cell? ⟨g, 9, none⟩ = some (.bool st4.found) := (qe hg4 9).trans rfl
          have m5 : w4.cell? ⟨g, 5, none⟩ = some (.bool all) := (qe hg4 5).trans rfl
          clear hg4 hT4 hR4 hk4 hb4 k9 k11
          by_cases hstop : (st4.broken || (st4.found && !all)) = true
          ·rw [hstop] at HTT
           cases hbb : st4.broken with
           | true =>
            rw [hbb] at m8
            clear hbb hstop
            go_wp2_with fail
            go_end0
            rw [HU.out, ← HL.out, HLS.out, HTT.out]
            exact ⟨rfl, HF4.out, HK4.out, HB4.out⟩
           | false =>
            rw [hbb] at m8 hstop
            obtain ⟨hfb, hab⟩ : st4.found = true ∧ all = false := by simpa using hstop
            rw [hfb] at m9
            rw [hab] at m5
            clear hbb hfb hab hstop
            go_wp2_with fail
            go_end0
            rw [HU.out, ← HL.out, HLS.out, HTT.out]
            exact ⟨rfl, HF4.out, HK4.out, HB4.out⟩
          ·have hstop' : (st4.broken || (st4.found && !all)) = false := by simpa using hstop
           rw [hstop'] at HTT
           clear hstop
           obtain ⟨hbb, hfa⟩ : st4.broken = false ∧ (st4.found = false ∨ all = true) := by
            rw [Bool.or_eq_false_iff] at hstop'
            refine ⟨hstop'.1, ?_⟩
            have := hstop'.2
            cases hx : st4.found
            ·exact .inl rfl
            ·rw [hx] at this
             exact .inr (by simpa using this)
           clear hstop'
           rw [hbb] at m8
           clear hbb
           rcases hfa with hfb | hab
           ·rw [hfb] at m9
            clear hfb
            go_wp2_with fail
            go_roundg (gk - 1)
            case measure => have := HK.out; omega
            case rel => exact ⟨t + 1, st4, by go_num, ⟨by have := HK.out; omega⟩, ⟨by rw [← HL.out, HLS.out, HTT.out]; rfl⟩, HIV, HF4, HK4, HB4⟩
           ·rw [hab] at m5
            clear hab
            cases hfb : st4.found with
            | true =>
             rw [hfb] at m9
             clear hfb
             go_wp2_with fail
             go_roundg (gk - 1)
             case measure => have := HK.out; omega
             case rel => exact ⟨t + 1, st4, by go_num, ⟨by have := HK.out; omega⟩, ⟨by rw [← HL.out, HLS.out, HTT.out]; rfl⟩, HIV, HF4, HK4, HB4⟩
            | false =>
             rw [hfb] at m9
             clear hfb
             go_wp2_with fail
             go_roundg (gk - 1)
             case measure => have := HK.out; omega
             case rel => exact ⟨t + 1, st4, by go_num, ⟨by have := HK.out; omega⟩, ⟨by rw [← HL.out, HLS.out, HTT.out]; rfl⟩, HIV, HF4, HK4, HB4⟩
     ·go_wp2_with fail
      go_end0
      have htN' : t = N := by omega
      rw [HU.out, ← HL.out, htN', Nat.sub_self]
      exact ⟨rfl, HF1.out, HKE.out, HB1.out⟩

end Go.Proofs.Ytpioelilfhkfdaa.XAll
