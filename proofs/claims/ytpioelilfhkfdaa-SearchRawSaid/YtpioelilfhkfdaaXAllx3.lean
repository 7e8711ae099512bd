-- This session's own text, written by wip/tools/xall.py after the form of the kit's print.
import Derived.Test.YtpioelilfhkfdaaXAllx0
import Derived.Test.YtpioelilfhkfdaaXAllx1
import Derived.Test.YtpioelilfhkfdaaXAllx2
namespace Go.Proofs.Ytpioelilfhkfdaa.XAll
open Go.RowKit Go.Proofs.YtpioelilfhkfdaaW.PrintWords Go.Proofs.YtpioelilfhkfdaaW.PrintLast Go.Proofs.YtpioelilfhkfdaaW.PrintMore
attribute [local go_sem] max2_int min2_int max_two min_two max_three min_three max_four min_four   -- for this text's walks alone
set_option linter.unusedVariables false
set_option linter.unusedSimpArgs false

/-! ### cycles_Components: function 73 -/
theorem find_bd : ∀ (k : Nat) (g : List Int) (i r : Int) (g' : List Int), cycles_groups_find.l0 k g i = some (r, g') → 0 ≤ r ∧ r < (g.length : Int) ∧ g'.length = g.length
 | 0, _, _, _, _, h => by simp [cycles_groups_find.l0] at h
 | k + 1, g, i, r, g', h => by
  simp only [cycles_groups_find.l0] at h
  by_cases c1 : 0 ≤ i
  ·rw [if_pos c1] at h
   by_cases c2 : i < (g.length : Int)
   ·rw [if_pos c2] at h
    by_cases c3 : rd g i = i
    ·rw [if_pos c3] at h
     obtain ⟨rfl, rfl⟩ := Prod.mk.inj (Option.some.inj h)
     exact ⟨c1, c2, rfl⟩
    ·rw [if_neg c3] at h
     by_cases c4 : 0 ≤ rd g i
     ·rw [if_pos c4] at h
      by_cases c5 : rd g i < (g.length : Int)
      ·rw [if_pos c5] at h
       have := find_bd k _ _ r g' h
       rw [List.length_set] at this
       exact this
      ·rw [if_neg c5] at h; exact absurd h (by simp)
     ·rw [if_neg c4] at h; exact absurd h (by simp)
   ·rw [if_neg c2] at h; exact absurd h (by simp)
  ·rw [if_neg c1] at h; exact absurd h (by simp)
def posK : List Int → Int → Nat
 | [], _ => 0
 | x :: xs, r => if x = r then 0 else posK xs r + 1
theorem posK_app {r : Int} (l : List Int) : ∀ dn : List Int, r ∈ dn → posK (dn ++ l) r = posK dn r
 | [], h => absurd h (by simp)
 | x :: xs, h => by
  show (if x = r then 0 else posK (xs ++ l) r + 1) = if x = r then 0 else posK xs r + 1
  by_cases e : x = r
  ·rw [if_pos e, if_pos e]
  ·rw [if_neg e, if_neg e, posK_app l xs (by rcases List.mem_cons.1 h with h | h; exact absurd h.symm e; exact h)]
theorem posK_new {r : Int} : ∀ dn : List Int, r ∉ dn → posK (dn ++ [r]) r = dn.length
 | [], _ => by simp [posK]
 | x :: xs, h => by
  show (if x = r then 0 else posK (xs ++ [r]) r + 1) = xs.length + 1
  rw [if_neg (fun e => h (by rw [e]; exact List.mem_cons_self)), posK_new xs (fun hm => h (List.mem_cons_of_mem _ hm))]
def addK (dn : List Int) (r : Int) : List Int := if r ∈ dn then dn else dn ++ [r]
def mergeLoop (k : Nat) (ac : List S62) : Nat → Nat → List Int → Option (List Int)
 | 0, _, g => some g
 | d + 1, i, g => (cycles_groups_merge.f k g (rd_T62 ac (i : Int)).f1 (rd_T62 ac (i : Int)).f2).bind fun t => mergeLoop k ac d (i + 1) t.2
def numLoop (k : Nat) : Nat → Nat → List Int → List Int → List Int → Option (List Int)
 | 0, _, _, _, out => some out
 | d + 1, i, g, dn, out => (cycles_groups_find.f k g (i : Int)).bind fun t => numLoop k d (i + 1) t.2 (addK dn t.1) (out ++ [(posK (addK dn t.1) t.1 : Int)])
/-- The components of a permitted network. -/
def compF (k n : Nat) (ac : List S62) : Option (List Int) := (cycles_alone.f k (n : Int)).bind fun g => if g.length = n then (mergeLoop k ac ac.length 0 g).bind fun g2 => numLoop k n 0 g2 [] [] else none
theorem mergeLoop_inv {k : Nat} {ac : List S62} {d i : Nat} {g g2 : List Int} (h : mergeLoop k ac (d + 1) i g = some g2) : ∃ b g1, cycles_groups_merge.f k g (rd_T62 ac (i : Int)).f1 (rd_T62 ac (i : Int)).f2 = some (b, g1) ∧ mergeLoop k ac d (i + 1) g1 = some g2 := by
 unfold mergeLoop at h
 cases h2 : cycles_groups_merge.f k g (rd_T62 ac (i : Int)).f1 (rd_T62 ac (i : Int)).f2 with
 | none => rw [h2] at h; exact absurd h (by simp)
 | some t => rw [h2] at h; exact ⟨t.1, t.2, rfl, h⟩
theorem numLoop_inv {k : Nat} {d i : Nat} {g dn out comp : List Int} (h : numLoop k (d + 1) i g dn out = some comp) : ∃ r g1, cycles_groups_find.f k g (i : Int) = some (r, g1) ∧ numLoop k d (i + 1) g1 (addK dn r) (out ++ [(posK (addK dn r) r : Int)]) = some comp := by
 unfold numLoop at h
 cases h2 : cycles_groups_find.f k g (i : Int) with
 | none => rw [h2] at h; exact absurd h (by simp)
 | some t => rw [h2] at h; exact ⟨t.1, t.2, rfl, h⟩
/-- What the map tells: the numbers of the groups met. -/
structure MapInv (D : DataW Unit) (dn : List Int) : Prop where
 has : ∀ r : Int, Maps.has D (.int .i64 r) = decide (r ∈ dn)
 pos : ∀ r : Int, r ∈ dn → D.atKey (.int .i64 r) (.lit (.int .i64 0)) = .lit (.int .i64 (posK dn r : Int))
 size : Maps.size D = dn.length
theorem MapInv.put {D : DataW Unit} {dn : List Int} (h : MapInv D dn) (hT : Maps.Tidy D) {r : Int} (hr : r ∉ dn) : MapInv (D.put (.int .i64 r) (.lit (.int .i64 (dn.length : Int)))) (dn ++ [r]) := by
 have hne : ∀ q : Int, q ≠ r → (Lit.int .i64 q) ≠ .int .i64 r := fun q hq e => hq (by injection e)
 refine ⟨fun q => ?_, fun q hq => ?_, ?_⟩
 ·by_cases e : q = r
  ·subst e
   rw [Maps.has_put_same hT.isMap (by exact trivial)]
   simp
  ·rw [Maps.has_put_other (hne q e), h.has q]
   simp [e]
 ·by_cases e : q = r
  ·subst e
   rw [Maps.atKey_put_same hT.isMap (by exact trivial), posK_new dn hr]
  ·rw [Maps.atKey_put_other (hne q e), posK_app [r] dn (by simpa [e] using hq)]
   exact h.pos q (by simpa [e] using hq)
 ·rw [Maps.size_put hT, h.has r]
  simp [hr, h.size]
theorem mapInv_empty : MapInv (.map [] : DataW Unit) [] := ⟨fun r => rfl, fun r hr => absurd hr (by simp), rfl⟩
theorem keyInt : Maps.Keyed Try.prog 3 := Maps.int_keyed Try.underlying3
theorem zeroI (w : World) : (zeroValue 3).run Try.prog w = .ok (.int .i64 0) w := by kernel_rfl
theorem ownsMap_kept {W W1 : World} {B n : Nat} {D : DataW Unit} {S : Nat → Prop} (h : W.ownsMap Try.prog 3 (plainElem Try.prog 3) B n D) (hk : Kept W W1 S) (hB : ¬ S B) : W1.ownsMap Try.prog 3 (plainElem Try.prog 3) B n D := by
 have hlt := h.lt
 obtain ⟨es, clock, hb, r⟩ := h
 exact ⟨es, clock, (hk.2 B hlt hB).trans hb, r⟩
theorem map_ne {W : World} {B n : Nat} {D : DataW Unit} (h : W.ownsMap Try.prog 3 (plainElem Try.prog 3) B n D) {base : Nat} {ok : Nat → Prop} {v : Value} {xs : List Int} (hr : Kd.R (Kd.int .i64) 3 W base ok v xs) : some B ≠ v.ownBlock := fun e => by
 obtain ⟨cells, hc⟩ := Kd.R_typed hr B e.symm
 obtain ⟨es, clock, hb, _⟩ := h
 rw [hb] at hc
 exact absurd hc (by simp)
theorem pair_move {W W1 : World} {base : Nat} {u vo : Value} {g out : List Int} (hu : Kd.R (Kd.int .i64) 3 W base (fun _ => True) u g) (hv : Kd.R (Kd.int .i64) 3 W base (fun k_ => some k_ ≠ u.ownBlock) vo out) (hm : ∀ k, k < W.heap.size → (some k = u.ownBlock ∨ some k = vo.ownBlock) → W1.heap[k]? = W.heap[k]?) :
  Kd.R (Kd.int .i64) 3 W1 base (fun _ => True) u g ∧ Kd.R (Kd.int .i64) 3 W1 base (fun k_ => some k_ ≠ u.ownBlock) vo out :=
 ⟨qy (Kd.R_step (Kd.R_tight rfl hu) (fun k hk hlt => hm k hlt (.inl hk))) (fun _ _ => trivial), qy (Kd.R_step (Kd.R_tight rfl hv) (fun k hk hlt => hm k hlt (.inr hk))) (fun k hk => hv.1 k hk.symm)⟩
theorem other_kept {W W1 : World} {base : Nat} {u vo : Value} {out : List Int} (hv : Kd.R (Kd.int .i64) 3 W base (fun k_ => some k_ ≠ u.ownBlock) vo out) (hk : Kept W W1 (fun k_ => some k_ = u.ownBlock)) : Kd.R (Kd.int .i64) 3 W1 base (fun k_ => some k_ ≠ u.ownBlock) vo out :=
 Kd.R_step hv (fun k ho hlt => hk.2 k hlt ho)
theorem wf_small {r : Int} (h0 : 0 ≤ r) (h1 : r < 1000000) : (Lit.int .i64 r).wf = true := by
 have := wrap64_wf r
 rwa [show wrap64 r = r by unfold wrap64; omega] at this
set_option maxHeartbeats 4000000 in
set_option maxRecDepth 100000 in
theorem comp_calls (k : Nat) (P : Int) (A1 : Option Addr) (c1 : Nat) (l1 : List S60) (A2 : Option Addr) (c2 : Nat) (l2 : List S62) (comp : List Int) (w : World) (hr1 : Kd.C k60 w A1 l1.length l1) (hc1 : l1.length ≤ c1) (hr2 : Kd.C k62 w A2 l2.length l2) (hc2 : l2.length ≤ c2) (hok : okNet P l1 l2 = true) (hn : l1.length ≤ 48) (h : compF k l1.length l2 = some comp) :
  Calls Try.prog 73 #[.agg #[.int .i64 P, .slice A1 l1.length c1, .slice A2 l2.length c2]] w fun e w' => ∃ v0 : Value, e = .returned v0 ∧ Kd.R (Kd.int .i64) 3 w' w.heap.size (fun _ => True) v0 comp ∧ Below w.heap.size w w' := by
 unfold compF at h
 cases hal : cycles_alone.f k (l1.length : Int) with
 | none => rw [hal] at h; exact absurd h (by simp)
 | some g0 =>
  rw [hal] at h
  have h' : (if g0.length = l1.length then (mergeLoop k l2 l2.length 0 g0).bind fun g2 => numLoop k l1.length 0 g2 [] [] else none) = some comp := h
  clear h
  by_cases hgl : g0.length = l1.length
  ·rw [if_pos hgl] at h'
   cases hml : mergeLoop k l2 l2.length 0 g0 with
   | none => rw [hml] at h'; exact absurd h' (by simp)
   | some g2 =>
    rw [hml] at h'
    have hnl : numLoop k l1.length 0 g2 [] [] = some comp := h'
    have hm2 : l2.length ≤ 9223372036854775807 := hr2.2.1
    have HCK := qo (fun W h1 h2 => network_Check.calls P A1 c1 l1 A2 c2 l2 true W h1 hc1 h2 hc2 (by unfold network_Check.f; rw [hok]))
    have HAL := qo (fun W => cycles_alone.calls k (l1.length : Int) g0 W hal)
    have HR1 := qo hr1
    have HR2 := qo hr2
    have HGL := qo hgl
    have HML := qo hml
    have HNL := qo hnl
    have HMM := qo (fun W => run_makeMap (P := Try.prog) 120 W)
    have hb0 := qc (qaj w.heap.size w) (.cells #[.int .i64 P, .slice A1 l1.length c1, .slice A2 l2.length c2] 26)
    have hnb := blk_new w (.cells #[.int .i64 P, .slice A1 l1.length c1, .slice A2 l2.length c2] 26)
    have HB0 := qo hb0
    have HNB := qo hnb
    clear h' hnl hml hgl hal hr1 hr2 hc1 hc2 hok hb0 hnb
    go_enter Try.func73, Try.ntmps73
    go_wp2_with (first | (go_at_call 57; refine (HCK.out _ (qs HR1.out HB0.out) (qs HR2.out HB0.out)).mono ?_; rintro e w1 ⟨rfl, hd⟩; obtain ⟨k1, k2⟩ : w1.cell? ⟨w.heap.size, 1, none⟩ = some (.slice A1 l1.length c1) ∧ w1.cell? ⟨w.heap.size, 2, none⟩ = some (.slice A2 l2.length c2) := ⟨(qe (qaa HNB.out hd) 1).trans rfl, (qe (qaa HNB.out hd) 2).trans rfl⟩; have HB1 := qo (qt HB0.out hd); clear hd) | (go_at_call 80; refine (HAL.out _).mono ?_; rintro e w2 ⟨u, rfl, ho2, hd2⟩; have k3 := pw_cell_below hd2 k2; have HO2 := qo (qag ho2 (qu HB1.out)); have HB2 := qo (qt HB1.out hd2); clear ho2 hd2 k1 k2))
    obtain ⟨Ag, cg, eu⟩ := qak HO2.out
    rw [HGL.out] at eu
    subst eu
    clear k3
    go_loopg [22] l2.length (fun kq v w' => ∃ (i : Nat) (g : List Int), v = .int .i64 (i : Int) ∧ Aside0 (i + kq = l2.length) ∧ Aside0 (mergeLoop k l2 kq i g = some g2) ∧ Aside0 (Kd.R (Kd.int .i64) 3 w' w.heap.size (fun _ => True) (.slice Ag l1.length cg) g) ∧ Aside0 (Below w.heap.size w w'))
    case atStart => exact ⟨0, g0, rfl, ⟨by omega⟩, HML, HO2, HB2⟩
    case round =>
     clear HML HO2 HB2 HB1
     obtain ⟨i, g, rfl, HK, HML, HO, HB⟩ := hrel
     by_cases hlt : i < l2.length
     ·cases gk with
      | zero => exact absurd HK.out (by omega)
      | succ gO =>
       obtain ⟨bq, g1, hmg, hnx⟩ := mergeLoop_inv HML.out
       obtain ⟨aa, rfl, ha0, ha1, ha2, ha3, ha4, ha5⟩ := at_T62 (qs HR2.out HB.out) (i : Int) (by omega) (by omega)
       simp only [Int.toNat_natCast] at ha0 ha1 ha2 ha3 ha4 ha5
       generalize rd_T62 l2 (i : Int) = x at *
       have HCA := qo (fun W hB ho => cycles_groups_merge.calls k (fun k_ => some k_ = (Value.slice Ag l1.length cg).ownBlock) (.slice Ag l1.length cg) g x.f1 x.f2 bq g1 w W hB ho hmg)
       have HNX := qo hnx
       have hbl := qc HB.out (.cells #[.int .i64 x.f0, .int .i64 x.f1, .int .i64 x.f2, .int .i64 x.f3, .int .i64 x.f4, .int .i64 x.f5] 62)
       have hra := Kd.R_tight rfl (qh HO.out (.cells #[.int .i64 x.f0, .int .i64 x.f1, .int .i64 x.f2, .int .i64 x.f3, .int .i64 x.f4, .int .i64 x.f5] 62))
       have HBL := qo hbl
       have HRA := qo hra
       clear hmg hnx hbl hra HML
       go_wp2_with (go_at_call 81; refine (HCA.out _ HBL.out HRA.out).mono ?_; rintro e w3 ⟨rfl, ho3, hb3, hk3⟩; have HO3 := qo (qy (ok' := fun _ => True) ho3 (fun _ _ => trivial)); have HB3 := qo hb3; clear ho3 hb3 hk3)
       go_roundg gO
       case measure => omega
       case rel => exact ⟨i + 1, g1, by go_num, ⟨by have := HK.out; omega⟩, HNX, HO3, HB3⟩
     ·have hg : gk = 0 := by have := HK.out; omega
      subst hg
      have hge : g = g2 := Option.some.inj HML.out
      have HG2 : Aside0 (Kd.R (Kd.int .i64) 3 wr w.heap.size (fun _ => True) (.slice Ag l1.length cg) g2) := ⟨hge ▸ HO.out⟩
      clear hge HML HO
      have hmm := HMM.out
      go_wp2_with fail
      clear hmm
      generalize hbe : wr.heap.size = B
      have hown := World.ownsMap_made (H := Unit) wr Try.prog 3 (plainElem Try.prog 3)
      rw [hbe] at hown
      have hg2 := qh HG2.out (.map #[] 0)
      have hbb := qc HB.out (.map #[] 0)
      have hB0 : w.heap.size ≤ B := by rw [← hbe]; exact qu HB.out
      have HOWN := qo hown
      have HG := qo hg2
      have HBN := qo hbb
      have HB0' := qo hB0
      clear hbe hown hg2 hbb hB0 HG2 HB
      go_loopg [36, 7] l1.length (fun kq v36 v7 w' => ∃ (i : Nat) (g dn out : List Int) (vo : Value) (D : DataW Unit), v36 = .int .i64 (i : Int) ∧ v7 = vo ∧ Aside0 (i + kq = l1.length) ∧ Aside0 (numLoop k kq i g dn out = some comp) ∧ Aside0 (Kd.R (Kd.int .i64) 3 w' w.heap.size (fun _ => True) (.slice Ag l1.length cg) g) ∧ Aside0 (w'.ownsMap Try.prog 3 (plainElem Try.prog 3) B i D) ∧ Aside0 (MapInv D dn) ∧ Aside0 (dn.length ≤ i) ∧ Aside0 (Kd.R (Kd.int .i64) 3 w' w.heap.size (fun k_ => some k_ ≠ (Value.slice Ag l1.length cg).ownBlock) vo out) ∧ Aside0 (out.length = i) ∧ Aside0 (Below w.heap.size w w'))
      case atStart => exact ⟨0, g2, [], [], _, .map [], rfl, rfl, ⟨by omega⟩, HNL, HG, HOWN, ⟨mapInv_empty⟩, ⟨Nat.le_refl _⟩, ⟨Kd.R_nil _ _ _ _ _⟩, ⟨rfl⟩, HBN⟩
      case round =>
       clear HNL HG HOWN HBN
       obtain ⟨i, g, dn, out, vo, D, rfl, rfl, HK, HNL, HG, HOWN, HMI, HDL, HV, HOL, HB⟩ := hrel
       by_cases hlt : i < l1.length
       ·cases gk with
        | zero => exact absurd HK.out (by omega)
        | succ gO =>
         obtain ⟨r, g1, hfd, hnx⟩ := numLoop_inv HNL.out
         obtain ⟨hr0, hr1, _⟩ := find_bd k g _ r g1 hfd
         rw [← (qr HG.out).1] at hr1
         have HWF := qo (wf_small hr0 (by omega))
         have HKEY := qo (Maps.keyOf_int_mk Try.underlying3 HWF.out)
         have HCA := qo (fun W hB ho => cycles_groups_find.calls k (fun k_ => some k_ = (Value.slice Ag l1.length cg).ownBlock) (.slice Ag l1.length cg) g (i : Int) r g1 w W hB ho hfd)
         have HT := qo (Kd.R_tight rfl HG.out)
         obtain ⟨Ao, co, rfl⟩ := qak HV.out
         have hdl := HDL.out
         clear hfd HNL
         by_cases hin : r ∈ dn
         ·have HHAS : Aside0 (Maps.has D (.int .i64 r) = true) := ⟨by rw [HMI.out.has r]; exact qac hin⟩
          have HPOS : Aside0 (∀ c : Int, D.atKey (.int .i64 r) (.lit (.int .i64 0)) = .lit (.int .i64 c) → c = (posK dn r : Int)) := ⟨fun c hc => by rw [HMI.out.pos r hin] at hc; injection hc with hc; injection hc with _ hc; exact hc.symm⟩
          rw [show addK dn r = dn from if_pos hin] at hnx
          have HNX := qo hnx
          clear hnx hin
          go_wp2_with (first | (go_at_call 82; refine (HCA.out _ HB.out HT.out).mono ?_; rintro e w3 ⟨rfl, ho3, hb3, hk3⟩; have HG3 := qo (qy (ok' := fun _ => True) ho3 (fun _ _ => trivial)); have HV3 := qo (other_kept HV.out hk3); have HB3 := qo hb3; have HO3 := qo (ownsMap_kept HOWN.out hk3 (map_ne HOWN.out HG.out)); clear ho3 hb3 hk3 HOWN; have HOWN := HO3; clear HO3) | (at_lookup; refine wpList_lookup_own_ok_int (H := Unit) _ rfl _ _ 120 rfl 3 3 .i64 keyInt Try.underlying120 Try.underlying3 (zeroI _) B i D rfl HOWN.out _ _ rfl HKEY.out ?_; intro c hat hwc; rw [HHAS.out]; clear hat hwc) | (at_lookup; refine wpList_lookup_own_int (H := Unit) _ rfl _ _ 120 rfl 3 3 .i64 keyInt Try.underlying120 Try.underlying3 (zeroI _) B i D rfl HOWN.out _ _ rfl HKEY.out ?_; intro c hat hwc; obtain rfl : c = (posK (dn) r : Int) := HPOS.out c hat; clear hat hwc) | ((with_reducible refine gate_dst (N := 59) rfl ?_); refine Kd.R_append (Kd.int .i64) (w0 := w) w.heap.size rfl (.tmp 54) (.tmp 58) 22 3 (.int .i64 0) 8 rfl Try.underlying22 info3 rfl (by decide) (by omega) _ out (posK (dn) r : Int) [.int .i64 (posK (dn) r : Int)] (fun k_ => some k_ ≠ (Value.slice Ag l1.length cg).ownBlock) (fun _ => False) rfl rfl rfl (fun _ hk => hk.elim) (fun k hk => (fun e => by have h1 := Kd.R_lt HG3.out k e.symm; omega)) HV3.out HB3.out (qu HB3.out) (by have := HOL.out; omega) ?_; intro v5 w5 ho5 hb5 hg5 hat5; obtain ⟨A5, L5, c5, rfl⟩ : ∃ A5 L5 c5, v5 = .slice A5 L5 c5 := (by obtain ⟨A, c, e⟩ := qak ho5; exact ⟨A, _, c, e⟩); have HV5 := qo ho5; have HB5 := qo hb5; have HG5 := qo (qy (ok' := fun _ => True) (Kd.R_grown (Kd.R_tight rfl HG3.out) hg5 (fun k hk e => HV3.out.1 k e.symm hk)) (fun _ _ => trivial)); have HM5 := qo (World.ownsMap.kept HOWN.out hg5 (map_ne HOWN.out HV3.out)); clear ho5 hb5 hg5 hat5))
          go_roundg gO
          case measure => omega
          case rel => exact ⟨i + 1, g1, dn, _, _, D, by go_num, rfl, ⟨by have := HK.out; omega⟩, HNX, HG5, ⟨HM5.out.mono (by omega)⟩, HMI, ⟨by omega⟩, HV5, ⟨by rw [List.length_append, List.length_singleton, HOL.out]⟩, HB5⟩
         ·have HHAS : Aside0 (Maps.has D (.int .i64 r) = false) := ⟨by rw [HMI.out.has r]; exact qad hin⟩
          have hmi2 := MapInv.put HMI.out (HOWN.out.tidy keyInt) hin
          have HPOS : Aside0 (∀ c : Int, (D.put (.int .i64 r) (.lit (.int .i64 (dn.length : Int)))).atKey (.int .i64 r) (.lit (.int .i64 0)) = .lit (.int .i64 c) → c = (posK (dn ++ [r]) r : Int)) := ⟨fun c hc => by rw [hmi2.pos r (by simp)] at hc; injection hc with hc; injection hc with _ hc; exact hc.symm⟩
          have HMI2 := qo hmi2
          have HSZ := qo HMI.out.size
          have HWL := qo (wf_small (r := (dn.length : Int)) (by omega) (by omega))
          rw [show addK dn r = dn ++ [r] from if_neg hin] at hnx
          have HNX := qo hnx
          clear hnx hin hmi2
          go_wp2_with (first | (go_at_call 82; refine (HCA.out _ HB.out HT.out).mono ?_; rintro e w3 ⟨rfl, ho3, hb3, hk3⟩; have HG3 := qo (qy (ok' := fun _ => True) ho3 (fun _ _ => trivial)); have HV3 := qo (other_kept HV.out hk3); have HB3 := qo hb3; have HO3 := qo (ownsMap_kept HOWN.out hk3 (map_ne HOWN.out HG.out)); clear ho3 hb3 hk3 HOWN; have HOWN := HO3; clear HO3) | (at_lookup; refine wpList_lookup_own_ok_int (H := Unit) _ rfl _ _ 120 rfl 3 3 .i64 keyInt Try.underlying120 Try.underlying3 (zeroI _) B i D rfl HOWN.out _ _ rfl HKEY.out ?_; intro c hat hwc; rw [HHAS.out]; clear hat hwc) | (at_len; refine wpList_len_own (H := Unit) _ rfl _ 120 rfl 3 3 Try.underlying120 (plainElem Try.prog 3) B i D rfl HOWN.out ?_; rw [HSZ.out]) | (at_mapUpdate; refine wpList_mapUpdate_own (H := Unit) _ rfl _ _ _ 120 rfl 3 3 keyInt Try.underlying120 (plainElem Try.prog 3) B i D rfl HOWN.out (by unfold maxLen; omega) _ _ _ rfl rfl HKEY.out _ [] (plainElem_int Try.underlying3 HWL.out) ?_; intro w4 hown4 hg4; have hp4 := pair_move HG3.out HV3.out (fun k_ hlt_ hk_ => hg4.block k_ hlt_ (fun e_ => by rcases hk_ with hk_ | hk_; exact map_ne HOWN.out HG3.out (by rw [← e_]; exact hk_); exact map_ne HOWN.out HV3.out (by rw [← e_]; exact hk_))); have HG4 := qo hp4.1; have HV4 := qo hp4.2; have HB4 := qo (pw_below_grown HB3.out (some B) (qu HB3.out) hg4 (fun k_ hk_ => by obtain rfl := Option.some.inj hk_; exact HB0'.out)); have HO4 := qo hown4; clear hown4 hg4 hp4) | (at_lookup; refine wpList_lookup_own_int (H := Unit) _ rfl _ _ 120 rfl 3 3 .i64 keyInt Try.underlying120 Try.underlying3 (zeroI _) B (i + 1) (D.put (.int .i64 r) (.lit (.int .i64 (dn.length : Int)))) rfl HO4.out _ _ rfl HKEY.out ?_; intro c hat hwc; obtain rfl : c = (posK (dn ++ [r]) r : Int) := HPOS.out c hat; clear hat hwc) | ((with_reducible refine gate_dst (N := 59) rfl ?_); refine Kd.R_append (Kd.int .i64) (w0 := w) w.heap.size rfl (.tmp 54) (.tmp 58) 22 3 (.int .i64 0) 8 rfl Try.underlying22 info3 rfl (by decide) (by omega) _ out (posK (dn ++ [r]) r : Int) [.int .i64 (posK (dn ++ [r]) r : Int)] (fun k_ => some k_ ≠ (Value.slice Ag l1.length cg).ownBlock) (fun _ => False) rfl rfl rfl (fun _ hk => hk.elim) (fun k hk => (fun e => by have h1 := Kd.R_lt HG4.out k e.symm; omega)) HV4.out HB4.out (qu HB4.out) (by have := HOL.out; omega) ?_; intro v5 w5 ho5 hb5 hg5 hat5; obtain ⟨A5, L5, c5, rfl⟩ : ∃ A5 L5 c5, v5 = .slice A5 L5 c5 := (by obtain ⟨A, c, e⟩ := qak ho5; exact ⟨A, _, c, e⟩); have HV5 := qo ho5; have HB5 := qo hb5; have HG5 := qo (qy (ok' := fun _ => True) (Kd.R_grown (Kd.R_tight rfl HG4.out) hg5 (fun k hk e => HV4.out.1 k e.symm hk)) (fun _ _ => trivial)); have HM5 := qo (World.ownsMap.kept HO4.out hg5 (map_ne HO4.out HV4.out)); clear ho5 hb5 hg5 hat5))
          go_roundg gO
          case measure => omega
          case rel => exact ⟨i + 1, g1, dn ++ [r], _, _, (D.put (.int .i64 r) (.lit (.int .i64 (dn.length : Int)))), by go_num, rfl, ⟨by have := HK.out; omega⟩, HNX, HG5, HM5, HMI2, ⟨by rw [List.length_append, List.length_singleton]; omega⟩, HV5, ⟨by rw [List.length_append, List.length_singleton, HOL.out]⟩, HB5⟩
       ·have hg : gk = 0 := by have := HK.out; omega
        subst hg
        have ho : out = comp := Option.some.inj HNL.out
        go_wp2_with fail
        go_ret
        exact ⟨_, rfl, by rw [← ho]; exact qy HV.out (fun _ _ => trivial), HB.out⟩
  ·rw [if_neg hgl] at h'; exact absurd h' (by simp)

end Go.Proofs.Ytpioelilfhkfdaa.XAll
