-- This session's own text, written by wip/tools/xprint.py after the form of the kit's print.
import Derived.Test.YtfnpoalffpnllaaXDynamicsGeneratedx0
namespace Go.Proofs.Ytfnpoalffpnllaa.XDynamicsGenerated
open Go.RowKit Go.Proofs.YtfnpoalffpnllaaW.PrintWords Go.Proofs.YtfnpoalffpnllaaW.PrintLast Go.Proofs.YtfnpoalffpnllaaW.PrintMore
attribute [local go_sem] max2_int min2_int max_two min_two max_three min_three max_four min_four   -- for this text's walks alone
set_option linter.unusedVariables false
set_option linter.unusedSimpArgs false

/-- A state of type 57 at block g of W; what its slices lead to came in by w0. -/
def IsS57 (w0 W : World) (g : Nat) (f0 : List Int) (f1 : Int) : Prop := ∃ A0 c0, W.heap[g]? = some (.cells #[.slice A0 f0.length c0, .int .i64 f1] 57 (0, 0)) ∧ w0.heap.size ≤ g ∧ Kd.C (Kd.int .i64) w0 A0 f0.length f0
theorem IsS57.grown {w0 W : World} {g : Nat} {f0 : List Int} {f1 : Int} {W1 : World} {row : Option Nat} (h : IsS57 w0 W g f0 f1) (hw : W.grownBy W1 row) (hne : some g ≠ row) : IsS57 w0 W1 g f0 f1 := by
  obtain ⟨A0, c0, hb, hg, hr0⟩ := h
  exact ⟨A0, c0, blk_grown hb hw hne, hg, hr0⟩
theorem IsS57.own_neN {w0 W : World} {g : Nat} {f0 : List Int} {f1 : Int} {α : Type} {d : Kd α} {e : Nat} {base : Nat} {ok : Nat → Prop} {v : Value} {xs : List α} (h : IsS57 w0 W g f0 f1) (ho : Kd.N d e W base ok v xs) (ht : e ≠ 57) : some g ≠ v.ownBlock := by
  obtain ⟨A0, c0, hb, hg, hr0⟩ := h
  exact Kd.N_ne ho hb ht
theorem IsS57.fresh {w0 W : World} {g : Nat} {f0 : List Int} {f1 : Int} (h : IsS57 w0 W g f0 f1) : ∀ k, W.heap.size ≤ k → k ≠ g := by
  obtain ⟨A0, c0, hb, hg, hr0⟩ := h
  exact Kd.freshB hb
theorem IsS57.kept {w0 W : World} {g : Nat} {f0 : List Int} {f1 : Int} {W1 : World} {S : Nat → Prop} (h : IsS57 w0 W g f0 f1) (hk : Kept W W1 S) (hne : ¬ S g) : IsS57 w0 W1 g f0 f1 := by
  obtain ⟨A0, c0, hb, hg, hr0⟩ := h
  exact ⟨A0, c0, blk_kept hb hk hne, hg, hr0⟩
theorem IsS57.below {w0 W : World} {g : Nat} {f0 : List Int} {f1 : Int} {W1 : World} (h : IsS57 w0 W g f0 f1) (hw : Below W.heap.size W W1) : IsS57 w0 W1 g f0 f1 := h.grown (grown_of_below hw none) (by simp)
theorem IsS57.alloc {w0 W : World} {g : Nat} {f0 : List Int} {f1 : Int} (h : IsS57 w0 W g f0 f1) (o : Obj) : IsS57 w0 (W.alloc o) g f0 f1 := h.below (below_alloc (Below.refl _ _) o)
theorem IsS57.drewN {w0 W : World} {g : Nat} {f0 : List Int} {f1 : Int} (h : IsS57 w0 W g f0 f1) (m : Nat) : IsS57 w0 (W.drewN m) g f0 f1 := h
theorem IsS57.drew {w0 W : World} {g : Nat} {f0 : List Int} {f1 : Int} (h : IsS57 w0 W g f0 f1) : IsS57 w0 W.drew g f0 f1 := h
theorem IsS57.at_ {w0 W : World} {g : Nat} {f0 : List Int} {f1 : Int} {w' : World} {m : Nat} (hq : W.drewN m = w') (h : IsS57 w0 W g f0 f1) : IsS57 w0 w' g f0 f1 := by subst hq; exact IsS57.drewN h m
theorem IsS57.apart {w0 W : World} {g : Nat} {f0 : List Int} {f1 : Int} {α : Type} {d : Kd α} {e : Nat} {base : Nat} {ok : Nat → Prop} {v : Value} {xs : List α} (h : IsS57 w0 W g f0 f1) (ho : d.R e W base ok v xs) (ht : ∀ q, q ∈ e :: d.E → q ≠ 57) : d.R e W base (fun k => ok k ∧ k ≠ g) v xs := by
  obtain ⟨A0, c0, hb, hg, hr0⟩ := h
  exact Kd.R_types ho hb ht
theorem IsS57.own_ne {w0 W : World} {g : Nat} {f0 : List Int} {f1 : Int} {α : Type} {d : Kd α} {e : Nat} {base : Nat} {ok : Nat → Prop} {v : Value} {xs : List α} (h : IsS57 w0 W g f0 f1) (ho : d.R e W base ok v xs) (ht : e ≠ 57) : some g ≠ v.ownBlock := by
  obtain ⟨A0, c0, hb, hg, hr0⟩ := h
  exact Kd.R_ne ho hb ht
theorem IsS57.apartQ {w0 W : World} {g : Nat} {f0 : List Int} {f1 : Int} {α : Type} {d : Kd α} {e : Nat} {base : Nat} {ok : Nat → Prop} {v : Value} {xs : List α} (h : IsS57 w0 W g f0 f1) (ho : d.Q e W base ok v xs) (ht : ∀ q, q ∈ e :: d.E → q ≠ 57) : d.Q e W base (fun k => ok k ∧ k ≠ g) v xs := by
  obtain ⟨A0, c0, hb, hg, hr0⟩ := h
  exact Kd.Q_types ho hb ht
theorem IsS57.own_neQ {w0 W : World} {g : Nat} {f0 : List Int} {f1 : Int} {α : Type} {d : Kd α} {e : Nat} {base : Nat} {ok : Nat → Prop} {v : Value} {xs : List α} (h : IsS57 w0 W g f0 f1) (ho : d.Q e W base ok v xs) (ht : e ≠ 57) : some g ≠ v.ownBlock := by
  obtain ⟨A0, c0, hb, hg, hr0⟩ := h
  exact Kd.Q_ne ho hb ht
theorem IsS57.apartS {w0 W : World} {g : Nat} {f0 : List Int} {f1 : Int} {α : Type} {d : Kd α} {e : Nat} {base : Nat} {ok : Nat → Prop} {v : Value} {xs : List α} (h : IsS57 w0 W g f0 f1) (ho : d.S e W base ok v xs) (ht : ∀ q, q ∈ e :: d.E → q ≠ 57) : d.S e W base (fun k => ok k ∧ k ≠ g) v xs := by
  obtain ⟨A0, c0, hb, hg, hr0⟩ := h
  exact Kd.S_types ho hb ht
theorem IsS57.own_neS {w0 W : World} {g : Nat} {f0 : List Int} {f1 : Int} {α : Type} {d : Kd α} {e : Nat} {base : Nat} {ok : Nat → Prop} {v : Value} {xs : List α} (h : IsS57 w0 W g f0 f1) (ho : d.S e W base ok v xs) (ht : e ≠ 57) : some g ≠ v.ownBlock := by
  obtain ⟨A0, c0, hb, hg, hr0⟩ := h
  exact Kd.S_ne ho hb ht
theorem IsS57.lt {w0 W : World} {g : Nat} {f0 : List Int} {f1 : Int} (h : IsS57 w0 W g f0 f1) : g < W.heap.size := by
  obtain ⟨A0, c0, hb, hg, hr0⟩ := h
  exact blk_lt hb
theorem IsS57.ge {w0 W : World} {g : Nat} {f0 : List Int} {f1 : Int} (h : IsS57 w0 W g f0 f1) : w0.heap.size ≤ g := by
  obtain ⟨A0, c0, hb, hg, hr0⟩ := h
  exact hg
theorem IsS57.ne_blk {w0 W : World} {g : Nat} {f0 : List Int} {f1 : Int} {a : Nat} {cs : Array Value} {t : TypeId} {fr : Nat × Nat} (h : IsS57 w0 W g f0 f1) (hb2 : W.heap[a]? = some (.cells cs t fr)) (ht : t ≠ 57) : g ≠ a := by
  obtain ⟨A0, c0, hb, hg, hr0⟩ := h
  rintro rfl
  rw [hb] at hb2
  injection hb2 with hb2
  injection hb2 with _ ht2
  exact ht ht2.symm
theorem IsS57.far {w0 W : World} {g : Nat} {f0 : List Int} {f1 : Int} {p : Addr} (h : IsS57 w0 W g f0 f1) (hne : g ≠ p.block) (u : Value) : IsS57 w0 (W.setCell p u) g f0 f1 := by
  obtain ⟨A0, c0, hb, hg, hr0⟩ := h
  exact ⟨A0, c0, blk_far hb hne u, hg, hr0⟩
theorem cellS57_0 {W : World} {g : Nat} {A0 : Option Addr} {c0 : Nat} {f0 : List Int} {f1 : Int} (h : W.heap[g]? = some (.cells #[.slice A0 f0.length c0, .int .i64 f1] 57 (0, 0))) : W.cell? ⟨g, 0, none⟩ = some (.slice A0 f0.length c0) := (blk_cell h 0).trans rfl
theorem cellS57_1 {W : World} {g : Nat} {A0 : Option Addr} {c0 : Nat} {f0 : List Int} {f1 : Int} (h : W.heap[g]? = some (.cells #[.slice A0 f0.length c0, .int .i64 f1] 57 (0, 0))) : W.cell? ⟨g, 1, none⟩ = some (.int .i64 f1) := (blk_cell h 1).trans rfl
theorem IsS57.set_1 {w0 W : World} {g : Nat} {f0 : List Int} {f1 : Int} (h : IsS57 w0 W g f0 f1) (x : Int) : IsS57 w0 (W.setCell ⟨g, 1, none⟩ (.int .i64 x)) g f0 x := by
  obtain ⟨A0, c0, hb, hg, hr0⟩ := h
  exact ⟨A0, c0, by simpa using blk_set hb 1 (.int .i64 x), hg, hr0⟩
theorem IsS57.new (w0 W : World) (A0 : Option Addr) (c0 : Nat) (f0 : List Int) (f1 : Int) (hB : Below w0.heap.size w0 W) (hr0 : Kd.C (Kd.int .i64) w0 A0 f0.length f0) : IsS57 w0 (W.alloc (.cells #[.slice A0 f0.length c0, .int .i64 f1] 57)) W.heap.size f0 f1 := ⟨A0, c0, by simpa using heap_alloc_new W _, hB.size, hr0⟩

/-! ### railplankeep_From: function 23 -/
def railplankeep_From.f (l0 : List Int) : Option (List Int × Int) := some (l0, 0)
set_option maxHeartbeats 8000000 in
set_option maxRecDepth 100000 in
theorem railplankeep_From.calls (A0 : Option Addr) (c0 : Nat) (l0 : List Int) (r1 : List Int) (r2 : Int) (w0 w : World) (hB : Below w0.heap.size w0 w) (hr0 : Kd.C (Kd.int .i64) w0 A0 l0.length l0) (hc0 : l0.length ≤ c0) (h : railplankeep_From.f l0 = some (r1, r2)) :
    Calls Try.prog 23 #[.slice A0 l0.length c0] w fun e w' => ∃ g_ : Nat, e = .returned (.pointer (some ⟨g_, 0, none⟩)) ∧ IsS57 w0 w' g_ r1 r2 ∧ Below w0.heap.size w0 w' ∧ Below w.heap.size w w' := by
  have hu57 := Try.underlying57
  have HR0 := Aside0.mk hr0
  have HC0 := Aside0.mk hc0
  clear hr0 hc0
  have HBW := Aside0.mk (Below.refl w.heap.size w)
  have HW0 := Aside0.mk hB.size
  have HB := Aside0.mk hB
  clear hB
  have H : (some (l0, 0)) = some (r1, r2) := h
  clear h
  simp only [Option.some.injEq, Prod.mk.injEq] at H
  obtain ⟨rfl, rfl⟩ := H
  go_enter Try.func23, Try.ntmps23
  go_wp2_with (first | ((with_reducible refine gate_dst (N := 5) rfl ?_); refine box_event ?hg (N := 5) ?hd (cs := #[.slice A0 l0.length c0, .int .i64 0]) (t := 57) ?hr ?_; (case hd => rfl); (case hg => rfl); (case hr => first | (go_simp; done) | (go_simp; rfl)); intro gb101 hg w2 hbox hb; have n0_ := Aside0.mk (below_step HBW.out hb); have n1_ := Aside0.mk (below_step (by repeat (first | (with_reducible first | exact HB.out | apply below_alloc | apply pw_below_drewN | apply below_drew1) | exact HB.out)) hb); have n2_ := Aside0.mk (hbox); have n3_ := Aside0.mk ((by rw [hg]; exact (below_size (by repeat (first | (with_reducible first | exact HBW.out | apply below_alloc | apply pw_below_drewN | apply below_drew1) | exact HBW.out))) : w.heap.size ≤ gb101)); have n4_ := Aside0.mk ((Nat.le_trans HW0.out (by rw [hg]; exact (below_size (by repeat (first | (with_reducible first | exact HBW.out | apply below_alloc | apply pw_below_drewN | apply below_drew1) | exact HBW.out))) : w.heap.size ≤ gb101) : w0.heap.size ≤ gb101)); clear HBW; clear HB; have HBW := n0_; have HB := n1_; have BK101 := n2_; have GW101 := n3_; have GE101 := n4_; clear n0_ n1_ n2_ n3_ n4_; clear hb hbox hg))
  go_ret
  exact ⟨_, rfl, (show IsS57 w0 _ gb101 l0 0 from ⟨_, _, by (with_reducible repeat (first | refine blk_drewN ?_ _ | refine blk_drew ?_ | refine blk_alloc ?_ _)); exact BK101.out, GE101.out, HR0.out⟩), by repeat (first | (with_reducible first | exact HB.out | apply below_alloc | apply pw_below_drewN | apply below_drew1 | refine below_set ?_ GE101.out) | exact HB.out), by repeat (first | (with_reducible first | exact HBW.out | apply below_alloc | apply pw_below_drewN | apply below_drew1 | refine below_set ?_ GW101.out) | exact HBW.out)⟩

/-! ### railplankeep_Pick: function 16 -/
def railplankeep_Pick.f (a0 : Int) (a1 : Int) : Option (Int) := if (IntKind.u64.wrap (a1)) = 0 then (none) else (some (wrap64 (Int.tmod (IntKind.u64.wrap (a0)) (IntKind.u64.wrap (a1)))))
set_option maxHeartbeats 8000000 in
set_option maxRecDepth 100000 in
theorem railplankeep_Pick.calls (a0 : Int) (a1 : Int) (r : Int) (w : World) (h : railplankeep_Pick.f a0 a1 = some r) :
    Calls Try.prog 16 #[.int .i64 a0, .int .i64 a1] w fun e w' => e = .returned (.int .i64 r) ∧ Drawn0 w w' := by
  have H : (if (IntKind.u64.wrap (a1)) = 0 then (none) else (some (wrap64 (Int.tmod (IntKind.u64.wrap (a0)) (IntKind.u64.wrap (a1)))))) = some r := h
  clear h
  by_cases c3 : (IntKind.u64.wrap (a1)) = 0
  · rw [if_pos c3] at H
    exact absurd H (by simp)
  · rw [if_neg c3] at H
    have c3b0 : ((IntKind.u64.wrap (a1)) == 0) = false := beq_eq_false_iff_ne.mpr c3
    have c3b1 : ((IntKind.u64.wrap (a1)) != 0) = true := bne_iff_ne.mpr c3
    obtain rfl := Option.some.inj H
    go_enter Try.func16, Try.ntmps16
    go_wp2
    go_ret
    exact ⟨by first | rfl | (simp; done) | (simp [*]; done), by repeat (first | exact Drawn0.refl _ | apply Drawn0.step)⟩

/-! ### railplankeep_Source_Next: function 24 -/
def railplankeep_Source_Next.f (s0_0 : List Int) (s0_1 : Int) (a1 : Int) : Option (Int × Int) := if s0_1 ≥ (s0_0.length : Int) then (some (0, s0_1)) else (if 0 ≤ (wrap64 ((wrap64 (s0_1 + 1)) - 1)) then (if (wrap64 ((wrap64 (s0_1 + 1)) - 1)) < (s0_0.length : Int) then ((railplankeep_Pick.f (rd s0_0 (wrap64 ((wrap64 (s0_1 + 1)) - 1))) a1).bind fun t103 => (some (t103, wrap64 (s0_1 + 1)))) else (none)) else (none))
set_option maxHeartbeats 8000000 in
set_option maxRecDepth 100000 in
theorem railplankeep_Source_Next.calls (g : Nat) (s0_0 : List Int) (s0_1 : Int) (a1 : Int) (r1 : Int) (r2 : Int) (w0 w : World) (hI : IsS57 w0 w g s0_0 s0_1) (hB : Below w0.heap.size w0 w) (h : railplankeep_Source_Next.f s0_0 s0_1 a1 = some (r1, r2)) :
    Calls Try.prog 24 #[.pointer (some ⟨g, 0, none⟩), .int .i64 a1] w fun e w' => e = .returned (.int .i64 r1) ∧ IsS57 w0 w' g s0_0 r2 ∧ Below w0.heap.size w0 w' ∧ KeepBut w w' g none := by
  have HI0 := Aside0.mk hI
  have HK := Aside0.mk (KeepBut.refl w g none)
  have HL := Aside0.mk hB.size
  clear hI
  have HW0 := Aside0.mk hB.size
  have HB := Aside0.mk hB
  clear hB
  have H : (if s0_1 ≥ (s0_0.length : Int) then (some (0, s0_1)) else (if 0 ≤ (wrap64 ((wrap64 (s0_1 + 1)) - 1)) then (if (wrap64 ((wrap64 (s0_1 + 1)) - 1)) < (s0_0.length : Int) then ((railplankeep_Pick.f (rd s0_0 (wrap64 ((wrap64 (s0_1 + 1)) - 1))) a1).bind fun t103 => (some (t103, wrap64 (s0_1 + 1)))) else (none)) else (none))) = some (r1, r2) := h
  clear h
  by_cases c3 : s0_1 ≥ (s0_0.length : Int)
  · rw [if_pos c3] at H
    have c3b0 : decide ((s0_0.length : Int) ≤ s0_1) = true := decide_eq_true c3
    clear c3
    simp only [Option.some.injEq, Prod.mk.injEq] at H
    obtain ⟨rfl, rfl⟩ := H
    obtain ⟨ASz4_0, cSz4_0, HGz4, hgz4, HSz4_0⟩ := HI0.out
    have hcz4_0 := cellS57_0 HGz4
    have hcz4_1 := cellS57_1 HGz4
    have hfz4_1 := blk_frozen HGz4 1
    clear HGz4 hgz4
    go_enter Try.func24, Try.ntmps24
    go_wp2
    repeat (go_quiet (fail); try go_wp2)
    go_ret
    exact ⟨by first | rfl | (simp [errW_none, errW_some] <;> rfl) | (simp [*, errW_none, errW_some] <;> rfl), by repeat (first | (with_reducible first | exact HI0.out | apply IsS57.alloc | apply IsS57.drewN | apply IsS57.drew | apply IsS57.set_1) | exact HI0.out), by repeat (first | (with_reducible first | exact HB.out | apply below_alloc | apply pw_below_drewN | apply below_drew1 | refine below_set ?_ (IsS57.ge HI0.out)) | exact HB.out), by repeat (first | (with_reducible first | exact HK.out | apply KeepBut.set_ | apply keep_drewN | apply keep_drew | apply keep_alloc) | exact HK.out)⟩
  · rw [if_neg c3] at H
    have c3b0 : decide ((s0_0.length : Int) ≤ s0_1) = false := decide_eq_false c3
    clear c3
    obtain ⟨ji5, hji5⟩ : ∃ j_ : Int, (wrap64 ((wrap64 (s0_1 + 1)) - 1)) = j_ := ⟨_, rfl⟩
    replace H : (if 0 ≤ (ji5) then (if (ji5) < (s0_0.length : Int) then ((railplankeep_Pick.f (rd s0_0 (ji5)) a1).bind fun t103 => (some (t103, wrap64 (s0_1 + 1)))) else (none)) else (none)) = some (r1, r2) := by first | (rw [hji5] at H; exact H) | (simp only [hji5] at H ⊢; exact H)
    have hji5w : (IntKind.i64.wrap ((wrap64 (s0_1 + 1)) - 1)) = ji5 := (i64_w _).trans hji5
    by_cases c6 : 0 ≤ (ji5)
    · rw [if_pos c6] at H
      have c6b0 : decide (0 ≤ (ji5)) = true := decide_eq_true c6
      clear c6
      by_cases c7 : (ji5) < (s0_0.length : Int)
      · rw [if_pos c7] at H
        have c7b0 : decide ((ji5) < (s0_0.length : Int)) = true := decide_eq_true c7
        clear c7
        replace H := Option.bind_eq_some_iff.mp H
        obtain ⟨t103, A80, H⟩ := H
        replace H : (some (t103, wrap64 (s0_1 + 1))) = some (r1, r2) := H
        have A8 := Aside0.mk A80
        clear A80
        simp only [Option.some.injEq, Prod.mk.injEq] at H
        obtain ⟨rfl, rfl⟩ := H
        obtain ⟨ASz9_0, cSz9_0, HGz9, hgz9, HSz9_0⟩ := HI0.out
        have hcz9_0 := cellS57_0 HGz9
        have hcz9_1 := cellS57_1 HGz9
        have hfz9_1 := blk_frozen HGz9 1
        clear HGz9 hgz9
        have p102 : 0 ≤ ((ji5) : Int) := of_decide_eq_true (by first | (with_reducible assumption) | assumption)
        have q102 : (ji5) < (s0_0.length : Int) := of_decide_eq_true (by first | (with_reducible assumption) | assumption)
        obtain ⟨ad102, e102, hx102_0⟩ := Kd.at_int HSz9_0 (ji5) p102 q102
        cases e102
        have hn102_0 : ad102.block ≠ g := Nat.ne_of_lt (Nat.lt_of_lt_of_le (by have := World.block_lt_of_cell? _ _ hx102_0; first | rwa [add_block] at this | exact this) (IsS57.ge HI0.out))
        replace hx102_0 := pw_cell_below HB.out hx102_0
        replace hx102_0 := (cell_far (p := ⟨g, 1, none⟩) (by first | (rw [add_block]; exact hn102_0) | (show (Addr.add _ _).block ≠ _; rw [add_block]; exact hn102_0) | exact hn102_0) (.int .i64 (wrap64 (s0_1 + 1)))).trans hx102_0
        (try have hy102_0 := fun (n_ : Nat) => (show (((w.drewN n_).setCell ⟨g, 1, none⟩ (.int .i64 (wrap64 (s0_1 + 1))))).cell? _ = some _ from hx102_0))
        clear hn102_0
        replace p102 := eq_true p102
        replace q102 := eq_true q102
        go_enter Try.func24, Try.ntmps24
        go_wp2_with (first | (go_at_call 16; (with_reducible refine (railplankeep_Pick.calls (rd s0_0 (ji5)) a1 t103 _ A8.out).mono ?_); rintro e w' ⟨rfl, ⟨nd, rfl⟩⟩; (try first | exact ⟨rfl, _, World.drewN_drewN _ _ _⟩ | exact ⟨rfl, _, Eq.trans (World.drewN_drewN _ _ _) (congrArg (World.drewN _) (Nat.add_assoc _ _ _))⟩)))
        repeat (go_quiet (first | (go_at_call 16; (with_reducible refine (railplankeep_Pick.calls (rd s0_0 (ji5)) a1 t103 _ A8.out).mono ?_); rintro e w' ⟨rfl, ⟨nd, rfl⟩⟩; (try first | exact ⟨rfl, _, World.drewN_drewN _ _ _⟩ | exact ⟨rfl, _, Eq.trans (World.drewN_drewN _ _ _) (congrArg (World.drewN _) (Nat.add_assoc _ _ _))⟩))); try go_wp2_with (first | (go_at_call 16; (with_reducible refine (railplankeep_Pick.calls (rd s0_0 (ji5)) a1 t103 _ A8.out).mono ?_); rintro e w' ⟨rfl, ⟨nd, rfl⟩⟩; (try first | exact ⟨rfl, _, World.drewN_drewN _ _ _⟩ | exact ⟨rfl, _, Eq.trans (World.drewN_drewN _ _ _) (congrArg (World.drewN _) (Nat.add_assoc _ _ _))⟩))))
        go_ret
        exact ⟨by first | rfl | (simp [errW_none, errW_some] <;> rfl) | (simp only [← hji5]; first | rfl | (simp [errW_none, errW_some] <;> rfl)) | (simp [*, errW_none, errW_some] <;> rfl), by repeat (first | (with_reducible first | exact HI0.out | apply IsS57.alloc | apply IsS57.drewN | apply IsS57.drew | apply IsS57.set_1) | exact HI0.out), by repeat (first | (with_reducible first | exact HB.out | apply below_alloc | apply pw_below_drewN | apply below_drew1 | refine below_set ?_ (IsS57.ge HI0.out)) | exact HB.out), by repeat (first | (with_reducible first | exact HK.out | apply KeepBut.set_ | apply keep_drewN | apply keep_drew | apply keep_alloc) | exact HK.out)⟩
      · rw [if_neg c7] at H
        exact absurd H (by simp)
    · rw [if_neg c6] at H
      exact absurd H (by simp)

/-! ### railplankeep_Cells: function 13 -/
mutual
def railplankeep_Cells.l0 : Nat → List (S34) → Int → List Int → Int → Option ((List (S34)))
  | 0, _, _, _, _ => none
  | k + 1, x4, x5, x107000, x107001 => if x5 > 0 then ((railplankeep_Source_Next.f x107000 x107001 40).bind fun bt109 => ((railplankeep_Source_Next.f x107000 bt109.2 81).bind fun bt111 => ((railplankeep_Source_Next.f x107000 bt111.2 4).bind fun bt114 => (railplankeep_Cells.l1 k x4 x5 (wrap64 (1 + bt114.1)) x107000 bt114.2 (wrap64 (1000 + (wrap64 (1000 * bt109.1)))) (wrap64 (bt111.1 - 40)))))) else (some x4)
def railplankeep_Cells.l1 : Nat → List (S34) → Int → Int → List Int → Int → Int → Int → Option ((List (S34)))
  | 0, _, _, _, _, _, _, _ => none
  | k + 1, x4, x5, x7, x107000, x107001, x114000, x114001 => if x7 > 0 then (if x4.length < 8796093022208 then (railplankeep_Cells.l1 k (x4 ++ [(⟨x114000, x114001⟩ : S34)]) x5 (wrap64 (x7 - 1)) x107000 x107001 x114000 x114001) else (none)) else (railplankeep_Cells.l0 k x4 (wrap64 (x5 - 1)) x107000 x107001)
end
def railplankeep_Cells.f (k : Nat) (l0 : List Int) : Option ((List (S34))) := (railplankeep_From.f l0).bind fun bt104 => ((railplankeep_Source_Next.f bt104.1 bt104.2 14).bind fun bt107 => (railplankeep_Cells.l0 k ([] : List (S34)) (wrap64 (1 + bt107.1)) bt104.1 bt107.2))
theorem railplankeep_Cells.mono_l : ∀ k, (∀ y0 y1 y2 y3, LeO (railplankeep_Cells.l0 k y0 y1 y2 y3) (railplankeep_Cells.l0 (k + 1) y0 y1 y2 y3)) ∧ (∀ y0 y1 y2 y3 y4 y5 y6, LeO (railplankeep_Cells.l1 k y0 y1 y2 y3 y4 y5 y6) (railplankeep_Cells.l1 (k + 1) y0 y1 y2 y3 y4 y5 y6))
  | 0 => ⟨fun _ _ _ _ r h => by simp [railplankeep_Cells.l0] at h, fun _ _ _ _ _ _ _ r h => by simp [railplankeep_Cells.l1] at h⟩
  | k + 1 => by
    obtain ⟨ih0, ih1⟩ := railplankeep_Cells.mono_l k
    refine ⟨?_, ?_⟩
    · intro y0 y1 y2 y3
      unfold railplankeep_Cells.l0
      repeat' first
      | (with_reducible exact ih0 _ _ _ _)
      | (with_reducible exact ih1 _ _ _ _ _ _ _)
      | (with_reducible exact LeO.refl _)
      | (with_reducible exact LeO.none _)
      | (with_reducible refine LeO.ite ?_ ?_)
      | (with_reducible refine LeO.bind ?_ (fun _ => ?_))
      | exact ih0 _ _ _ _
      | exact ih1 _ _ _ _ _ _ _
      | exact LeO.none _
      | refine LeO.ite ?_ ?_
      | refine LeO.bind ?_ (fun _ => ?_)
    · intro y0 y1 y2 y3 y4 y5 y6
      unfold railplankeep_Cells.l1
      repeat' first
      | (with_reducible exact ih0 _ _ _ _)
      | (with_reducible exact ih1 _ _ _ _ _ _ _)
      | (with_reducible exact LeO.refl _)
      | (with_reducible exact LeO.none _)
      | (with_reducible refine LeO.ite ?_ ?_)
      | (with_reducible refine LeO.bind ?_ (fun _ => ?_))
      | exact ih0 _ _ _ _
      | exact ih1 _ _ _ _ _ _ _
      | exact LeO.none _
      | refine LeO.ite ?_ ?_
      | refine LeO.bind ?_ (fun _ => ?_)
theorem railplankeep_Cells.mono : ∀ a0 k, LeO (railplankeep_Cells.f k a0) (railplankeep_Cells.f (k + 1) a0) := by
  intro a0 k
  obtain ⟨ih0, ih1⟩ := railplankeep_Cells.mono_l k
  unfold railplankeep_Cells.f
  repeat' first
      | (with_reducible exact ih0 _ _ _ _)
      | (with_reducible exact ih1 _ _ _ _ _ _ _)
      | (with_reducible exact LeO.refl _)
      | (with_reducible exact LeO.none _)
      | (with_reducible refine LeO.ite ?_ ?_)
      | (with_reducible refine LeO.bind ?_ (fun _ => ?_))
      | exact ih0 _ _ _ _
      | exact ih1 _ _ _ _ _ _ _
      | exact LeO.none _
      | refine LeO.ite ?_ ?_
      | refine LeO.bind ?_ (fun _ => ?_)
set_option maxHeartbeats 8000000 in
set_option maxRecDepth 100000 in
theorem railplankeep_Cells.calls (k : Nat) (A0 : Option Addr) (c0 : Nat) (l0 : List Int) (r : List (S34)) (w : World) (hr0 : Kd.C (Kd.int .i64) w A0 l0.length l0) (hc0 : l0.length ≤ c0) (h : railplankeep_Cells.f k l0 = some r) :
    Calls Try.prog 13 #[.slice A0 l0.length c0] w fun e w' => ∃ v0_ : Value, e = .returned (v0_) ∧ Kd.R k34 34 w' w.heap.size (fun _ => True) v0_ r ∧ Below w.heap.size w w' := by
  have hu34 := Try.underlying34
  have HR0 := Aside0.mk hr0
  have HC0 := Aside0.mk hc0
  clear hr0 hc0
  have HB := Aside0.mk (Below.refl w.heap.size w)
  have H : ((railplankeep_From.f l0).bind fun bt104 => ((railplankeep_Source_Next.f bt104.1 bt104.2 14).bind fun bt107 => (railplankeep_Cells.l0 k ([] : List (S34)) (wrap64 (1 + bt107.1)) bt104.1 bt107.2))) = some r := h
  clear h
  replace H := Option.bind_eq_some_iff.mp H
  obtain ⟨⟨t104, t105⟩, A20, H⟩ := H
  replace H : ((railplankeep_Source_Next.f t104 t105 14).bind fun bt107 => (railplankeep_Cells.l0 k ([] : List (S34)) (wrap64 (1 + bt107.1)) t104 bt107.2)) = some r := H
  have A2 := Aside0.mk A20
  clear A20
  replace H := Option.bind_eq_some_iff.mp H
  obtain ⟨⟨t107, t108⟩, A30, H⟩ := H
  replace H : (railplankeep_Cells.l0 k ([] : List (S34)) (wrap64 (1 + t107)) t104 t108) = some r := H
  have A3 := Aside0.mk A30
  clear A30
  have H' := Aside0.mk H
  clear H
  go_enter Try.func13, Try.ntmps13
  go_wp2_with (first | ((with_reducible refine gate_callee (f := 23) rfl ?_); refine goesL_ (some 9) rfl rfl Try.func23 (by kernel_rfl) rfl #[.slice A0 l0.length c0] rfl (by (try simp only [List.map_toArray, List.map_cons, List.map_nil]); first | done | rfl | (simp only [List.length_drop, List.length_take]; rfl)) ?_; (with_reducible refine (railplankeep_From.calls _ _ l0 t104 t105 w _ ?side1 ?side2 ?side3 A2.out).mono ?_); (case side1 => repeat (first | (with_reducible first | exact HB.out | apply below_alloc | apply pw_below_drewN | apply below_drew1) | exact HB.out)); (case side2 => exact HR0.out); (case side3 => exact HC0.out); rintro e w4 ⟨g106, rfl, hi, hb, hb2⟩; refine ⟨_, rfl, ?_⟩; have n0_ := Aside0.mk (hb); have n1_ := Aside0.mk (hi); clear HB; have HB := n0_; have HI106 := n1_; clear n0_ n1_; (try clear hb); (try clear hb2); (try clear hk); (try clear hi)) | ((with_reducible refine gate_callee (f := 24) rfl ?_); refine goesL_ (some 11) rfl rfl Try.func24 (by kernel_rfl) rfl #[.pointer (some ⟨g106, 0, none⟩), .int .i64 14] rfl (by (try simp only [List.map_toArray, List.map_cons, List.map_nil]); first | done | rfl | (simp only [List.length_drop, List.length_take]; rfl)) ?_; (with_reducible refine (railplankeep_Source_Next.calls g106 t104 t105 14 t107 t108 w _ ?side1 ?side2 A3.out).mono ?_); (case side1 => repeat (first | (with_reducible first | exact HI106.out | apply IsS57.alloc | apply IsS57.drewN | apply IsS57.drew | apply IsS57.set_1) | exact HI106.out)); (case side2 => repeat (first | (with_reducible first | exact HB.out | apply below_alloc | apply pw_below_drewN | apply below_drew1 | refine below_set ?_ (IsS57.ge HI106.out)) | exact HB.out)); rintro e w5 ⟨rfl, hi, hb, hk⟩; refine ⟨_, rfl, ?_⟩; have n0_ := Aside0.mk (hb); have n1_ := Aside0.mk (hi); clear HB; clear HI106; have HB := n0_; have HI106 := n1_; clear n0_ n1_; (try clear hb); (try clear hb2); (try clear hk); (try clear hi)))
  go_loopg [4, 5] k (fun kq v4 v5 w' => ∃ (x4_1 : List (S34)) (x5_1 : Int) (x107001_1 : Int), v5 = .int .i64 x5_1 ∧ Aside0 (railplankeep_Cells.l0 kq x4_1 x5_1 t104 x107001_1 = some r) ∧ Aside0 (kq ≤ k) ∧ Aside0 (Kd.R k34 34 w' w.heap.size (fun _ => True) v4 x4_1) ∧ Aside0 (IsS57 w w' g106 t104 x107001_1) ∧ Aside0 (Below w.heap.size w w'))
  case atStart => exact ⟨(([] : List (S34))), (wrap64 (1 + t107)), (t108), (by first | rfl | (simp; done) | (simp [*]; done)), H', ⟨Nat.le_refl _⟩, ⟨by first | exact Kd.R_nil _ _ _ _ _ | exact Kd.N_nil _ _ _ _ _ | exact Kd.V_nil _ _ _ _ _ | exact Kd.Q_nil _ _ _ _ _ | exact Kd.S_nil _ _ _ _ _⟩, ⟨by repeat (first | (with_reducible first | exact HI106.out | apply IsS57.alloc | apply IsS57.drewN | apply IsS57.drew | apply IsS57.set_1) | exact HI106.out)⟩, ⟨by repeat (first | (with_reducible first | exact HB.out | apply below_alloc | apply pw_below_drewN | apply below_drew1 | refine below_set ?_ (IsS57.ge HI106.out)) | exact HB.out)⟩⟩
  case round =>
    clear H'
    try clear c1
    try clear c2
    try clear p2
    obtain ⟨x4_1, x5_1, x107001_1, rfl, HA, HK1, HO_4, HI106, HB⟩ := hrel
    cases gk with
    | zero => exact absurd HA.out (by simp [railplankeep_Cells.l0])
    | succ k1 =>
      have H := HA.out
      clear HA
      simp only [railplankeep_Cells.l0] at H
      by_cases c6 : x5_1 > 0
      · rw [if_pos c6] at H
        have c6b0 : decide (0 < x5_1) = true := decide_eq_true c6
        clear c6
        replace H := Option.bind_eq_some_iff.mp H
        obtain ⟨⟨t109, t110⟩, A70, H⟩ := H
        replace H : ((railplankeep_Source_Next.f t104 t110 81).bind fun bt111 => ((railplankeep_Source_Next.f t104 bt111.2 4).bind fun bt114 => (railplankeep_Cells.l1 k1 x4_1 x5_1 (wrap64 (1 + bt114.1)) t104 bt114.2 (wrap64 (1000 + (wrap64 (1000 * t109)))) (wrap64 (bt111.1 - 40))))) = some r := H
        have A7 := Aside0.mk A70
        clear A70
        replace H := Option.bind_eq_some_iff.mp H
        obtain ⟨⟨t111, t112⟩, A80, H⟩ := H
        replace H : ((railplankeep_Source_Next.f t104 t112 4).bind fun bt114 => (railplankeep_Cells.l1 k1 x4_1 x5_1 (wrap64 (1 + bt114.1)) t104 bt114.2 (wrap64 (1000 + (wrap64 (1000 * t109)))) (wrap64 (t111 - 40)))) = some r := H
        have A8 := Aside0.mk A80
        clear A80
        replace H := Option.bind_eq_some_iff.mp H
        obtain ⟨⟨t114, t115⟩, A90, H⟩ := H
        replace H : (railplankeep_Cells.l1 k1 x4_1 x5_1 (wrap64 (1 + t114)) t104 t115 (wrap64 (1000 + (wrap64 (1000 * t109)))) (wrap64 (t111 - 40))) = some r := H
        have A9 := Aside0.mk A90
        clear A90
        have H' := Aside0.mk H
        clear H
        go_wp2_with (first | ((with_reducible refine gate_callee (f := 24) rfl ?_); refine goesL_ (some 18) rfl rfl Try.func24 (by kernel_rfl) rfl #[.pointer (some ⟨g106, 0, none⟩), .int .i64 40] rfl (by (try simp only [List.map_toArray, List.map_cons, List.map_nil]); first | done | rfl | (simp only [List.length_drop, List.length_take]; rfl)) ?_; (with_reducible refine (railplankeep_Source_Next.calls g106 t104 x107001_1 40 t109 t110 w _ ?side1 ?side2 A7.out).mono ?_); (case side1 => repeat (first | (with_reducible first | exact HI106.out | apply IsS57.alloc | apply IsS57.drewN | apply IsS57.drew | apply IsS57.set_1) | exact HI106.out)); (case side2 => repeat (first | (with_reducible first | exact HB.out | apply below_alloc | apply pw_below_drewN | apply below_drew1 | refine below_set ?_ (IsS57.ge HI106.out)) | exact HB.out)); rintro e w10 ⟨rfl, hi, hb, hk⟩; refine ⟨_, rfl, ?_⟩; have n0_ := Aside0.mk (Kd.R_mono (Kd.R_keep (IsS57.apart (show IsS57 w _ g106 t104 x107001_1 from by repeat (first | (with_reducible first | exact HI106.out | apply IsS57.alloc | apply IsS57.drewN | apply IsS57.drew | apply IsS57.set_1) | exact HI106.out)) (by (with_reducible repeat (first | apply Kd.R_alloc | apply Kd.R_drewN | apply Kd.R_drew)); exact HO_4.out) (by decide)) hk (fun _ h => h.2)) (fun _ h => h.1)); have n1_ := Aside0.mk (hb); have n2_ := Aside0.mk (hi); clear HO_4; clear HB; clear HI106; have HO_4 := n0_; have HB := n1_; have HI106 := n2_; clear n0_ n1_ n2_; (try clear hb); (try clear hb2); (try clear hk); (try clear hi)) | ((with_reducible refine gate_callee (f := 24) rfl ?_); refine goesL_ (some 22) rfl rfl Try.func24 (by kernel_rfl) rfl #[.pointer (some ⟨g106, 0, none⟩), .int .i64 81] rfl (by (try simp only [List.map_toArray, List.map_cons, List.map_nil]); first | done | rfl | (simp only [List.length_drop, List.length_take]; rfl)) ?_; (with_reducible refine (railplankeep_Source_Next.calls g106 t104 t110 81 t111 t112 w _ ?side1 ?side2 A8.out).mono ?_); (case side1 => repeat (first | (with_reducible first | exact HI106.out | apply IsS57.alloc | apply IsS57.drewN | apply IsS57.drew | apply IsS57.set_1) | exact HI106.out)); (case side2 => repeat (first | (with_reducible first | exact HB.out | apply below_alloc | apply pw_below_drewN | apply below_drew1 | refine below_set ?_ (IsS57.ge HI106.out)) | exact HB.out)); rintro e w11 ⟨rfl, hi, hb, hk⟩; refine ⟨_, rfl, ?_⟩; have n0_ := Aside0.mk (Kd.R_mono (Kd.R_keep (IsS57.apart (show IsS57 w _ g106 t104 t110 from by repeat (first | (with_reducible first | exact HI106.out | apply IsS57.alloc | apply IsS57.drewN | apply IsS57.drew | apply IsS57.set_1) | exact HI106.out)) (by (with_reducible repeat (first | apply Kd.R_alloc | apply Kd.R_drewN | apply Kd.R_drew)); exact HO_4.out) (by decide)) hk (fun _ h => h.2)) (fun _ h => h.1)); have n1_ := Aside0.mk (hb); have n2_ := Aside0.mk (hi); clear HO_4; clear HB; clear HI106; have HO_4 := n0_; have HB := n1_; have HI106 := n2_; clear n0_ n1_ n2_; (try clear hb); (try clear hb2); (try clear hk); (try clear hi)) | ((with_reducible refine gate_dst (N := 6) rfl ?_); refine box_event ?hg (N := 6) ?hd (cs := #[.int .i64 0, .int .i64 0]) (t := 34) ?hr ?_; (case hd => rfl); (case hg => rfl); (case hr => first | (go_simp; done) | (go_simp; rfl)); intro gb113 hg w12 hbox hb; have n0_ := Aside0.mk (Kd.R_below (Kd.R_elderB (by (with_reducible repeat (first | apply Kd.R_alloc | apply Kd.R_drewN | apply Kd.R_drew)); exact HO_4.out) gb113 (Nat.le_of_eq hg.symm)) hb); have n1_ := Aside0.mk (IsS57.below (by repeat (first | (with_reducible first | exact HI106.out | apply IsS57.alloc | apply IsS57.drewN | apply IsS57.drew | apply IsS57.set_1) | exact HI106.out)) hb); have n2_ := Aside0.mk (below_step (by repeat (first | (with_reducible first | exact HB.out | apply below_alloc | apply pw_below_drewN | apply below_drew1 | refine below_set ?_ (IsS57.ge HI106.out)) | exact HB.out)) hb); have n3_ := Aside0.mk (hbox); have n4_ := Aside0.mk ((by rw [hg]; exact (below_size (by repeat (first | (with_reducible first | exact HB.out | apply below_alloc | apply pw_below_drewN | apply below_drew1 | refine below_set ?_ (IsS57.ge HI106.out)) | exact HB.out))) : w.heap.size ≤ gb113)); have n5_ := Aside0.mk ((by rw [hg]; exact (below_size (by repeat (first | (with_reducible first | exact HB.out | apply below_alloc | apply pw_below_drewN | apply below_drew1 | refine below_set ?_ (IsS57.ge HI106.out)) | exact HB.out))) : w.heap.size ≤ gb113)); have n6_ := Aside0.mk ((by rw [hg]; exact Nat.ne_of_lt (IsS57.lt (show IsS57 w _ g106 t104 t112 from by repeat (first | (with_reducible first | exact HI106.out | apply IsS57.alloc | apply IsS57.drewN | apply IsS57.drew | apply IsS57.set_1) | exact HI106.out))) : g106 ≠ gb113)); have n7_ := Aside0.mk ((by rw [hg]; exact Nat.ne_of_gt (IsS57.lt (show IsS57 w _ g106 t104 t112 from by repeat (first | (with_reducible first | exact HI106.out | apply IsS57.alloc | apply IsS57.drewN | apply IsS57.drew | apply IsS57.set_1) | exact HI106.out))) : gb113 ≠ g106)); clear HO_4; clear HI106; clear HB; have HO_4 := n0_; have HI106 := n1_; have HB := n2_; have BK113 := n3_; have GW113 := n4_; have GE113 := n5_; have NB106_113 := n6_; have NB113_106 := n7_; clear n0_ n1_ n2_ n3_ n4_ n5_ n6_ n7_; clear hb hbox hg; have hnb13 := NB113_106.out; have hnc13 := NB106_113.out; have hcz14_0 : w12.cell? ⟨gb113, 0, none⟩ = some (.int .i64 0) := (blk_cell BK113.out 0).trans rfl; have hcz14_1 : w12.cell? ⟨gb113, 1, none⟩ = some (.int .i64 0) := (blk_cell BK113.out 1).trans rfl; have hfz14_0 := blk_frozen BK113.out 0; have hfz14_1 := blk_frozen BK113.out 1) | ((with_reducible refine gate_callee (f := 24) rfl ?_); refine goesL_ (some 26) rfl rfl Try.func24 (by kernel_rfl) rfl #[.pointer (some ⟨g106, 0, none⟩), .int .i64 4] rfl (by (try simp only [List.map_toArray, List.map_cons, List.map_nil]); first | done | rfl | (simp only [List.length_drop, List.length_take]; rfl)) ?_; (with_reducible refine (railplankeep_Source_Next.calls g106 t104 t112 4 t114 t115 w _ ?side1 ?side2 A9.out).mono ?_); (case side1 => repeat (first | (with_reducible first | exact HI106.out | apply IsS57.alloc | apply IsS57.drewN | apply IsS57.drew | apply IsS57.set_1 | refine IsS57.far ?_ NB106_113.out _) | exact HI106.out)); (case side2 => repeat (first | (with_reducible first | exact HB.out | apply below_alloc | apply pw_below_drewN | apply below_drew1 | refine below_set ?_ (IsS57.ge HI106.out) | refine below_set ?_ GE113.out) | exact HB.out)); rintro e w15 ⟨rfl, hi, hb, hk⟩; refine ⟨_, rfl, ?_⟩; have n0_ := Aside0.mk (Kd.R_mono (Kd.R_keep (IsS57.apart (show IsS57 w _ g106 t104 t112 from by repeat (first | (with_reducible first | exact HI106.out | apply IsS57.alloc | apply IsS57.drewN | apply IsS57.drew | apply IsS57.set_1 | refine IsS57.far ?_ NB106_113.out _) | exact HI106.out)) (by (with_reducible repeat (first | apply Kd.R_alloc | apply Kd.R_drewN | apply Kd.R_drew)); exact (Kd.R_mono (Kd.R_far (p := ⟨gb113, 1, none⟩) (Kd.R_far (p := ⟨gb113, 0, none⟩) (Kd.R_mono HO_4.out (fun k_ hk => (⟨hk, hk.2⟩ : _ ∧ k_ ≠ gb113))) (fun _ hk => hk.2) (.int .i64 (wrap64 (1000 + (wrap64 (1000 * t109)))))) (fun _ hk => hk.2) (.int .i64 (wrap64 (t111 - 40)))) (fun _ h_ => h_.1))) (by decide)) hk (fun _ h => h.2)) (fun _ h => h.1)); have n1_ := Aside0.mk (KeepBut.blk hk (g' := gb113) (o := .cells #[.int .i64 (wrap64 (1000 + (wrap64 (1000 * t109)))), .int .i64 (wrap64 (t111 - 40))] 34 (0, 0)) (by (with_reducible repeat (first | refine blk_drewN ?_ _ | refine blk_drew ?_ | refine blk_alloc ?_ _)); refine blk_put (cs := #[.int .i64 (wrap64 (1000 + (wrap64 (1000 * t109)))), .int .i64 0]) ?_ 1 _ rfl; (with_reducible repeat (first | refine blk_drewN ?_ _ | refine blk_drew ?_ | refine blk_alloc ?_ _)); refine blk_put (cs := #[.int .i64 0, .int .i64 0]) ?_ 0 _ rfl; (with_reducible repeat (first | refine blk_drewN ?_ _ | refine blk_drew ?_ | refine blk_alloc ?_ _)); exact BK113.out) NB113_106.out (by simp)); have n2_ := Aside0.mk (hb); have n3_ := Aside0.mk (hi); clear HO_4; clear BK113; clear HB; clear HI106; have HO_4 := n0_; have BK113 := n1_; have HB := n2_; have HI106 := n3_; clear n0_ n1_ n2_ n3_; (try clear hb); (try clear hb2); (try clear hk); (try clear hi)))
        go_loopg [4, 7] k1 (fun kq v4 v7 w' => ∃ (x4_2 : List (S34)) (x7_2 : Int), v7 = .int .i64 x7_2 ∧ Aside0 (railplankeep_Cells.l1 kq x4_2 x5_1 x7_2 t104 t115 (wrap64 (1000 + (wrap64 (1000 * t109)))) (wrap64 (t111 - 40)) = some r) ∧ Aside0 (kq ≤ k1) ∧ Aside0 (Kd.R k34 34 w' w.heap.size (fun k_ => k_ ≠ gb113) v4 x4_2) ∧ Aside0 (w'.heap[gb113]? = some (.cells #[.int .i64 (wrap64 (1000 + (wrap64 (1000 * t109)))), .int .i64 (wrap64 (t111 - 40))] 34 (0, 0))) ∧ Aside0 (IsS57 w w' g106 t104 t115) ∧ Aside0 (Below w.heap.size w w'))
        case atStart => exact ⟨(x4_1), (wrap64 (1 + t114)), (by first | rfl | (simp; done) | (simp [*]; done)), H', ⟨Nat.le_refl _⟩, ⟨by (with_reducible repeat (first | apply Kd.R_alloc | apply Kd.R_drewN | apply Kd.R_drew)); exact Kd.R_mono HO_4.out (fun _ hk => hk.2)⟩, ⟨by (with_reducible repeat (first | refine blk_drewN ?_ _ | refine blk_drew ?_ | refine blk_alloc ?_ _)); exact BK113.out⟩, ⟨by repeat (first | (with_reducible first | exact HI106.out | apply IsS57.alloc | apply IsS57.drewN | apply IsS57.drew | apply IsS57.set_1 | refine IsS57.far ?_ NB106_113.out _) | exact HI106.out)⟩, ⟨by repeat (first | (with_reducible first | exact HB.out | apply below_alloc | apply pw_below_drewN | apply below_drew1 | refine below_set ?_ (IsS57.ge HI106.out) | refine below_set ?_ GE113.out) | exact HB.out)⟩⟩
        case round =>
          clear H'
          try clear c1
          try clear c2
          try clear p2
          try clear c6
          try clear c6b0
          try clear p6
          try clear c13
          try clear hcz14_0
          try clear hcz14_1
          try clear hfz14_0
          try clear hfz14_1
          try clear p2
          obtain ⟨x4_2, x7_2, rfl, HA, HK2, HO_4, BK113, HI106, HB⟩ := hrel
          cases gk with
          | zero => exact absurd HA.out (by simp [railplankeep_Cells.l1])
          | succ k2 =>
            have H := HA.out
            clear HA
            simp only [railplankeep_Cells.l1] at H
            by_cases c16 : x7_2 > 0
            · rw [if_pos c16] at H
              have c16b0 : decide (0 < x7_2) = true := decide_eq_true c16
              clear c16
              by_cases c17 : x4_2.length < 8796093022208
              · rw [if_pos c17] at H
                have LMc17 := Aside0.mk c17
                clear c17
                obtain ⟨y116, hy116⟩ : ∃ y_ : List (S34), y_ = (x4_2 ++ [(⟨(wrap64 (1000 + (wrap64 (1000 * t109)))), (wrap64 (t111 - 40))⟩ : S34)]) := ⟨_, rfl⟩
                replace H : (railplankeep_Cells.l1 k2 y116 x5_1 (wrap64 (x7_2 - 1)) t104 t115 (wrap64 (1000 + (wrap64 (1000 * t109)))) (wrap64 (t111 - 40))) = some r := by first | (rw [hy116]; with_reducible exact H) | (have H2_ := (Option.bind_some _ _).symm.trans H; rw [hy116]; with_reducible exact H2_) | (have H2_ := (Option.bind_some _ _).symm.trans H; with_reducible exact H2_) | with_reducible exact H | (rw [hy116]; exact H) | exact H
                have Ny116 := Aside0.mk hy116
                clear hy116
                have H' := Aside0.mk H
                clear H
                have hnb18 := NB113_106.out
                have hnc18 := NB106_113.out
                have hcz19_0 : wr.cell? ⟨gb113, 0, none⟩ = some (.int .i64 (wrap64 (1000 + (wrap64 (1000 * t109))))) := (blk_cell BK113.out 0).trans rfl
                have hcz19_1 : wr.cell? ⟨gb113, 1, none⟩ = some (.int .i64 (wrap64 (t111 - 40))) := (blk_cell BK113.out 1).trans rfl
                have hfz19_0 := blk_frozen BK113.out 0
                have hfz19_1 := blk_frozen BK113.out 1
                go_wp2_with (first | ((with_reducible refine gate_builtin (b := .append) (xs := #[.tmp 32, .tmp 34]) rfl ?_); at_builtin; refine Kd.R_append k34 (w0 := w) w.heap.size rfl (.tmp 32) (.tmp 34) 23 34 (.agg #[(.int .i64 0), (.int .i64 0)]) 16 rfl Try.underlying23 info34 rfl (by decide) (by omega) u4 x4_2 (⟨(wrap64 (1000 + (wrap64 (1000 * t109)))), (wrap64 (t111 - 40))⟩ : S34) [.int .i64 (wrap64 (1000 + (wrap64 (1000 * t109)))), .int .i64 (wrap64 (t111 - 40))] (fun k_ => k_ ≠ gb113) (fun _ => False) rfl rfl ?aP (fun _ hk => hk.elim) ?aF ?aO ?aB ?aS ?aL ?_; (case aP => exact k34_mkM _ _ _ (⟨(wrap64 (1000 + (wrap64 (1000 * t109)))), (wrap64 (t111 - 40))⟩ : S34)); (case aB => exact (by repeat (first | (with_reducible first | exact HB.out | apply below_alloc | apply pw_below_drewN | apply below_drew1 | refine below_set ?_ (IsS57.ge HI106.out) | refine below_set ?_ GE113.out) | exact HB.out))); (case aF => exact (fun k_ hk => Kd.freshB (g := gb113) (o := .cells #[.int .i64 (wrap64 (1000 + (wrap64 (1000 * t109)))), .int .i64 (wrap64 (t111 - 40))] 34 (0, 0)) (by (with_reducible repeat (first | refine blk_drewN ?_ _ | refine blk_drew ?_ | refine blk_alloc ?_ _)); exact BK113.out) k_ hk)); (case aO => exact (by (with_reducible repeat (first | apply Kd.R_alloc | apply Kd.R_drewN | apply Kd.R_drew)); exact HO_4.out)); (case aS => exact (below_size (by repeat (first | (with_reducible first | exact HB.out | apply below_alloc | apply pw_below_drewN | apply below_drew1 | refine below_set ?_ (IsS57.ge HI106.out) | refine below_set ?_ GE113.out) | exact HB.out)))); (case aL => have := LMc17.out; omega); intro v117 w20 ho hb hg hat; rw [← Ny116.out] at ho; have n0_ := Aside0.mk (blk_grown (g := gb113) (o := .cells #[.int .i64 (wrap64 (1000 + (wrap64 (1000 * t109)))), .int .i64 (wrap64 (t111 - 40))] 34 (0, 0)) (by (with_reducible repeat (first | refine blk_drewN ?_ _ | refine blk_drew ?_ | refine blk_alloc ?_ _)); exact BK113.out) hg (Kd.R_away HO_4.out (fun _ hk => hk))); have n1_ := Aside0.mk (IsS57.grown (by repeat (first | (with_reducible first | exact HI106.out | apply IsS57.alloc | apply IsS57.drewN | apply IsS57.drew | apply IsS57.set_1 | refine IsS57.far ?_ NB106_113.out _) | exact HI106.out)) hg (IsS57.own_ne HI106.out HO_4.out (by decide))); have n2_ := Aside0.mk (hb); have n3_ := Aside0.mk (ho); clear BK113; clear HI106; clear HB; clear HO_4; have BK113 := n0_; have HI106 := n1_; have HB := n2_; have HO118 := n3_; clear n0_ n1_ n2_ n3_; clear ho hb hg hat))
                go_roundg k2
                case measure => have := HK1.out; have := HK2.out; omega
                case rel => exact ⟨(y116), (wrap64 (x7_2 - 1)), (by first | rfl | (simp; done) | (simp [*]; done)), H', ⟨by have := HK1.out; have := HK2.out; omega⟩, ⟨by (with_reducible repeat (first | apply Kd.R_alloc | apply Kd.R_drewN | apply Kd.R_drew)); exact HO118.out⟩, ⟨by (with_reducible repeat (first | refine blk_drewN ?_ _ | refine blk_drew ?_ | refine blk_alloc ?_ _)); exact BK113.out⟩, ⟨by repeat (first | (with_reducible first | exact HI106.out | apply IsS57.alloc | apply IsS57.drewN | apply IsS57.drew | apply IsS57.set_1 | refine IsS57.far ?_ NB106_113.out _) | exact HI106.out)⟩, ⟨by repeat (first | (with_reducible first | exact HB.out | apply below_alloc | apply pw_below_drewN | apply below_drew1 | refine below_set ?_ (IsS57.ge HI106.out) | refine below_set ?_ GE113.out) | exact HB.out)⟩⟩
              · rw [if_neg c17] at H
                exact absurd H (by simp)
            · rw [if_neg c16] at H
              have c16b0 : decide (0 < x7_2) = false := decide_eq_false c16
              clear c16
              have H' := Aside0.mk H
              clear H
              go_wp2
              go_roundg k2
              case measure => have := HK1.out; have := HK2.out; omega
              case rel => exact ⟨(x4_2), (wrap64 (x5_1 - 1)), (t115), (by first | rfl | (simp; done) | (simp [*]; done)), H', ⟨by have := HK1.out; have := HK2.out; omega⟩, ⟨by (with_reducible repeat (first | apply Kd.R_alloc | apply Kd.R_drewN | apply Kd.R_drew)); exact Kd.R_mono HO_4.out (fun _ hk => trivial)⟩, ⟨by repeat (first | (with_reducible first | exact HI106.out | apply IsS57.alloc | apply IsS57.drewN | apply IsS57.drew | apply IsS57.set_1 | refine IsS57.far ?_ NB106_113.out _) | exact HI106.out)⟩, ⟨by repeat (first | (with_reducible first | exact HB.out | apply below_alloc | apply pw_below_drewN | apply below_drew1 | refine below_set ?_ (IsS57.ge HI106.out) | refine below_set ?_ GE113.out) | exact HB.out)⟩⟩
      · rw [if_neg c6] at H
        have c6b0 : decide (0 < x5_1) = false := decide_eq_false c6
        clear c6
        obtain rfl := Option.some.inj H
        go_wp2
        go_ret
        exact ⟨_, by first | rfl | (simp [errW_none, errW_some] <;> rfl) | (simp [*, errW_none, errW_some] <;> rfl), by (with_reducible repeat (first | apply Kd.R_alloc | apply Kd.R_drewN | apply Kd.R_drew)); exact HO_4.out, by repeat (first | (with_reducible first | exact HB.out | apply below_alloc | apply pw_below_drewN | apply below_drew1 | refine below_set ?_ (IsS57.ge HI106.out)) | exact HB.out)⟩

/-! ### railplankeep_Stock: function 14 -/
def railplankeep_Stock.f (l0 : List Int) : Option (ByteArray × Int × Int × Int × Int) := (railplankeep_From.f l0).bind fun bt120 => ((railplankeep_Source_Next.f bt120.1 bt120.2 4).bind fun bt123 => ((railplankeep_Source_Next.f bt120.1 bt123.2 12).bind fun bt125 => ((railplankeep_Source_Next.f bt120.1 bt125.2 8).bind fun bt127 => ((railplankeep_Source_Next.f bt120.1 bt127.2 8).bind fun bt129 => (some ((⟨#[88]⟩ : ByteArray), wrap64 (1 + bt123.1), wrap64 (5000 + (wrap64 (2500 * bt125.1))), wrap64 (200 + (wrap64 (100 * bt127.1))), wrap64 (200 + (wrap64 (100 * bt129.1)))))))))
set_option maxHeartbeats 8000000 in
set_option maxRecDepth 100000 in
theorem railplankeep_Stock.calls (A0 : Option Addr) (c0 : Nat) (l0 : List Int) (r1 : ByteArray) (r2 : Int) (r3 : Int) (r4 : Int) (r5 : Int) (w : World) (hr0 : Kd.C (Kd.int .i64) w A0 l0.length l0) (hc0 : l0.length ≤ c0) (h : railplankeep_Stock.f l0 = some (r1, r2, r3, r4, r5)) :
    Calls Try.prog 14 #[.slice A0 l0.length c0] w fun e w' => e = .returned (.agg #[.string r1, .int .i64 r2, .int .i64 r3, .int .i64 r4, .int .i64 r5]) ∧ Below w.heap.size w w' := by
  have hu26 := Try.underlying26
  have HR0 := Aside0.mk hr0
  have HC0 := Aside0.mk hc0
  clear hr0 hc0
  have HB := Aside0.mk (Below.refl w.heap.size w)
  have H : ((railplankeep_From.f l0).bind fun bt120 => ((railplankeep_Source_Next.f bt120.1 bt120.2 4).bind fun bt123 => ((railplankeep_Source_Next.f bt120.1 bt123.2 12).bind fun bt125 => ((railplankeep_Source_Next.f bt120.1 bt125.2 8).bind fun bt127 => ((railplankeep_Source_Next.f bt120.1 bt127.2 8).bind fun bt129 => (some ((⟨#[88]⟩ : ByteArray), wrap64 (1 + bt123.1), wrap64 (5000 + (wrap64 (2500 * bt125.1))), wrap64 (200 + (wrap64 (100 * bt127.1))), wrap64 (200 + (wrap64 (100 * bt129.1)))))))))) = some (r1, r2, r3, r4, r5) := h
  clear h
  replace H := Option.bind_eq_some_iff.mp H
  obtain ⟨⟨t120, t121⟩, A20, H⟩ := H
  replace H : ((railplankeep_Source_Next.f t120 t121 4).bind fun bt123 => ((railplankeep_Source_Next.f t120 bt123.2 12).bind fun bt125 => ((railplankeep_Source_Next.f t120 bt125.2 8).bind fun bt127 => ((railplankeep_Source_Next.f t120 bt127.2 8).bind fun bt129 => (some ((⟨#[88]⟩ : ByteArray), wrap64 (1 + bt123.1), wrap64 (5000 + (wrap64 (2500 * bt125.1))), wrap64 (200 + (wrap64 (100 * bt127.1))), wrap64 (200 + (wrap64 (100 * bt129.1))))))))) = some (r1, r2, r3, r4, r5) := H
  have A2 := Aside0.mk A20
  clear A20
  replace H := Option.bind_eq_some_iff.mp H
  obtain ⟨⟨t123, t124⟩, A30, H⟩ := H
  replace H : ((railplankeep_Source_Next.f t120 t124 12).bind fun bt125 => ((railplankeep_Source_Next.f t120 bt125.2 8).bind fun bt127 => ((railplankeep_Source_Next.f t120 bt127.2 8).bind fun bt129 => (some ((⟨#[88]⟩ : ByteArray), wrap64 (1 + t123), wrap64 (5000 + (wrap64 (2500 * bt125.1))), wrap64 (200 + (wrap64 (100 * bt127.1))), wrap64 (200 + (wrap64 (100 * bt129.1)))))))) = some (r1, r2, r3, r4, r5) := H
  have A3 := Aside0.mk A30
  clear A30
  replace H := Option.bind_eq_some_iff.mp H
  obtain ⟨⟨t125, t126⟩, A40, H⟩ := H
  replace H : ((railplankeep_Source_Next.f t120 t126 8).bind fun bt127 => ((railplankeep_Source_Next.f t120 bt127.2 8).bind fun bt129 => (some ((⟨#[88]⟩ : ByteArray), wrap64 (1 + t123), wrap64 (5000 + (wrap64 (2500 * t125))), wrap64 (200 + (wrap64 (100 * bt127.1))), wrap64 (200 + (wrap64 (100 * bt129.1))))))) = some (r1, r2, r3, r4, r5) := H
  have A4 := Aside0.mk A40
  clear A40
  replace H := Option.bind_eq_some_iff.mp H
  obtain ⟨⟨t127, t128⟩, A50, H⟩ := H
  replace H : ((railplankeep_Source_Next.f t120 t128 8).bind fun bt129 => (some ((⟨#[88]⟩ : ByteArray), wrap64 (1 + t123), wrap64 (5000 + (wrap64 (2500 * t125))), wrap64 (200 + (wrap64 (100 * t127))), wrap64 (200 + (wrap64 (100 * bt129.1)))))) = some (r1, r2, r3, r4, r5) := H
  have A5 := Aside0.mk A50
  clear A50
  replace H := Option.bind_eq_some_iff.mp H
  obtain ⟨⟨t129, t130⟩, A60, H⟩ := H
  replace H : (some ((⟨#[88]⟩ : ByteArray), wrap64 (1 + t123), wrap64 (5000 + (wrap64 (2500 * t125))), wrap64 (200 + (wrap64 (100 * t127))), wrap64 (200 + (wrap64 (100 * t129))))) = some (r1, r2, r3, r4, r5) := H
  have A6 := Aside0.mk A60
  clear A60
  simp only [Option.some.injEq, Prod.mk.injEq] at H
  obtain ⟨rfl, rfl, rfl, rfl, rfl⟩ := H
  go_enter Try.func14, Try.ntmps14
  go_wp2_with (first | ((with_reducible refine gate_dst (N := 2) rfl ?_); refine box_event ?hg (N := 2) ?hd (cs := #[.string (⟨#[]⟩ : ByteArray), .int .i64 0, .int .i64 0, .int .i64 0, .int .i64 0]) (t := 26) ?hr ?_; (case hd => rfl); (case hg => rfl); (case hr => first | (go_simp; done) | (go_simp; rfl)); intro gb119 hg w7 hbox hb; have n0_ := Aside0.mk (below_step (by repeat (first | (with_reducible first | exact HB.out | apply below_alloc | apply pw_below_drewN | apply below_drew1) | exact HB.out)) hb); have n1_ := Aside0.mk (hbox); have n2_ := Aside0.mk ((by rw [hg]; exact (below_size (by repeat (first | (with_reducible first | exact HB.out | apply below_alloc | apply pw_below_drewN | apply below_drew1) | exact HB.out))) : w.heap.size ≤ gb119)); have n3_ := Aside0.mk ((by rw [hg]; exact (below_size (by repeat (first | (with_reducible first | exact HB.out | apply below_alloc | apply pw_below_drewN | apply below_drew1) | exact HB.out))) : w.heap.size ≤ gb119)); clear HB; have HB := n0_; have BK119 := n1_; have GW119 := n2_; have GE119 := n3_; clear n0_ n1_ n2_ n3_; clear hb hbox hg) | ((with_reducible refine gate_callee (f := 23) rfl ?_); refine goesL_ (some 5) rfl rfl Try.func23 (by kernel_rfl) rfl #[.slice A0 l0.length c0] rfl (by (try simp only [List.map_toArray, List.map_cons, List.map_nil]); first | done | rfl | (simp only [List.length_drop, List.length_take]; rfl)) ?_; (with_reducible refine (railplankeep_From.calls _ _ l0 t120 t121 w _ ?side1 ?side2 ?side3 A2.out).mono ?_); (case side1 => repeat (first | (with_reducible first | exact HB.out | apply below_alloc | apply pw_below_drewN | apply below_drew1 | refine below_set ?_ GE119.out) | exact HB.out)); (case side2 => exact HR0.out); (case side3 => exact HC0.out); rintro e w8 ⟨g122, rfl, hi, hb, hb2⟩; refine ⟨_, rfl, ?_⟩; have n0_ := Aside0.mk (blk_below (g := gb119) (o := .cells #[.string (⟨#[]⟩ : ByteArray), .int .i64 0, .int .i64 0, .int .i64 0, .int .i64 0] 26 (0, 0)) (by (with_reducible repeat (first | refine blk_drewN ?_ _ | refine blk_drew ?_ | refine blk_alloc ?_ _)); exact BK119.out) hb2); have n1_ := Aside0.mk (hb); have n2_ := Aside0.mk (hi); have n3_ := Aside0.mk (IsS57.ne_blk hi (blk_below (g := gb119) (o := .cells #[.string (⟨#[]⟩ : ByteArray), .int .i64 0, .int .i64 0, .int .i64 0, .int .i64 0] 26 (0, 0)) (by (with_reducible repeat (first | refine blk_drewN ?_ _ | refine blk_drew ?_ | refine blk_alloc ?_ _)); exact BK119.out) hb2) (by decide)); have n4_ := Aside0.mk (Ne.symm (IsS57.ne_blk hi (blk_below (g := gb119) (o := .cells #[.string (⟨#[]⟩ : ByteArray), .int .i64 0, .int .i64 0, .int .i64 0, .int .i64 0] 26 (0, 0)) (by (with_reducible repeat (first | refine blk_drewN ?_ _ | refine blk_drew ?_ | refine blk_alloc ?_ _)); exact BK119.out) hb2) (by decide))); clear BK119; clear HB; have BK119 := n0_; have HB := n1_; have HI122 := n2_; have NB122_119 := n3_; have NB119_122 := n4_; clear n0_ n1_ n2_ n3_ n4_; (try clear hb); (try clear hb2); (try clear hk); (try clear hi)) | ((with_reducible refine gate_callee (f := 24) rfl ?_); refine goesL_ (some 7) rfl rfl Try.func24 (by kernel_rfl) rfl #[.pointer (some ⟨g122, 0, none⟩), .int .i64 4] rfl (by (try simp only [List.map_toArray, List.map_cons, List.map_nil]); first | done | rfl | (simp only [List.length_drop, List.length_take]; rfl)) ?_; (with_reducible refine (railplankeep_Source_Next.calls g122 t120 t121 4 t123 t124 w _ ?side1 ?side2 A3.out).mono ?_); (case side1 => repeat (first | (with_reducible first | exact HI122.out | apply IsS57.alloc | apply IsS57.drewN | apply IsS57.drew | apply IsS57.set_1 | refine IsS57.far ?_ NB122_119.out _) | exact HI122.out)); (case side2 => repeat (first | (with_reducible first | exact HB.out | apply below_alloc | apply pw_below_drewN | apply below_drew1 | refine below_set ?_ (IsS57.ge HI122.out) | refine below_set ?_ GE119.out) | exact HB.out)); rintro e w9 ⟨rfl, hi, hb, hk⟩; refine ⟨_, rfl, ?_⟩; have n0_ := Aside0.mk (KeepBut.blk hk (g' := gb119) (o := .cells #[.string (⟨#[]⟩ : ByteArray), .int .i64 0, .int .i64 0, .int .i64 0, .int .i64 0] 26 (0, 0)) (by (with_reducible repeat (first | refine blk_drewN ?_ _ | refine blk_drew ?_ | refine blk_alloc ?_ _)); exact BK119.out) NB119_122.out (by simp)); have n1_ := Aside0.mk (hb); have n2_ := Aside0.mk (hi); clear BK119; clear HB; clear HI122; have BK119 := n0_; have HB := n1_; have HI122 := n2_; clear n0_ n1_ n2_; (try clear hb); (try clear hb2); (try clear hk); (try clear hi)) | ((with_reducible refine gate_callee (f := 24) rfl ?_); refine goesL_ (some 10) rfl rfl Try.func24 (by kernel_rfl) rfl #[.pointer (some ⟨g122, 0, none⟩), .int .i64 12] rfl (by (try simp only [List.map_toArray, List.map_cons, List.map_nil]); first | done | rfl | (simp only [List.length_drop, List.length_take]; rfl)) ?_; (with_reducible refine (railplankeep_Source_Next.calls g122 t120 t124 12 t125 t126 w _ ?side1 ?side2 A4.out).mono ?_); (case side1 => repeat (first | (with_reducible first | exact HI122.out | apply IsS57.alloc | apply IsS57.drewN | apply IsS57.drew | apply IsS57.set_1 | refine IsS57.far ?_ NB122_119.out _) | exact HI122.out)); (case side2 => repeat (first | (with_reducible first | exact HB.out | apply below_alloc | apply pw_below_drewN | apply below_drew1 | refine below_set ?_ (IsS57.ge HI122.out) | refine below_set ?_ GE119.out) | exact HB.out)); rintro e w10 ⟨rfl, hi, hb, hk⟩; refine ⟨_, rfl, ?_⟩; have n0_ := Aside0.mk (KeepBut.blk hk (g' := gb119) (o := .cells #[.string (⟨#[]⟩ : ByteArray), .int .i64 0, .int .i64 0, .int .i64 0, .int .i64 0] 26 (0, 0)) (by (with_reducible repeat (first | refine blk_drewN ?_ _ | refine blk_drew ?_ | refine blk_alloc ?_ _)); exact BK119.out) NB119_122.out (by simp)); have n1_ := Aside0.mk (hb); have n2_ := Aside0.mk (hi); clear BK119; clear HB; clear HI122; have BK119 := n0_; have HB := n1_; have HI122 := n2_; clear n0_ n1_ n2_; (try clear hb); (try clear hb2); (try clear hk); (try clear hi)) | ((with_reducible refine gate_callee (f := 24) rfl ?_); refine goesL_ (some 14) rfl rfl Try.func24 (by kernel_rfl) rfl #[.pointer (some ⟨g122, 0, none⟩), .int .i64 8] rfl (by (try simp only [List.map_toArray, List.map_cons, List.map_nil]); first | done | rfl | (simp only [List.length_drop, List.length_take]; rfl)) ?_; (with_reducible refine (railplankeep_Source_Next.calls g122 t120 t126 8 t127 t128 w _ ?side1 ?side2 A5.out).mono ?_); (case side1 => repeat (first | (with_reducible first | exact HI122.out | apply IsS57.alloc | apply IsS57.drewN | apply IsS57.drew | apply IsS57.set_1 | refine IsS57.far ?_ NB122_119.out _) | exact HI122.out)); (case side2 => repeat (first | (with_reducible first | exact HB.out | apply below_alloc | apply pw_below_drewN | apply below_drew1 | refine below_set ?_ (IsS57.ge HI122.out) | refine below_set ?_ GE119.out) | exact HB.out)); rintro e w11 ⟨rfl, hi, hb, hk⟩; refine ⟨_, rfl, ?_⟩; have n0_ := Aside0.mk (KeepBut.blk hk (g' := gb119) (o := .cells #[.string (⟨#[]⟩ : ByteArray), .int .i64 0, .int .i64 0, .int .i64 0, .int .i64 0] 26 (0, 0)) (by (with_reducible repeat (first | refine blk_drewN ?_ _ | refine blk_drew ?_ | refine blk_alloc ?_ _)); exact BK119.out) NB119_122.out (by simp)); have n1_ := Aside0.mk (hb); have n2_ := Aside0.mk (hi); clear BK119; clear HB; clear HI122; have BK119 := n0_; have HB := n1_; have HI122 := n2_; clear n0_ n1_ n2_; (try clear hb); (try clear hb2); (try clear hk); (try clear hi)) | ((with_reducible refine gate_callee (f := 24) rfl ?_); refine goesL_ (some 18) rfl rfl Try.func24 (by kernel_rfl) rfl #[.pointer (some ⟨g122, 0, none⟩), .int .i64 8] rfl (by (try simp only [List.map_toArray, List.map_cons, List.map_nil]); first | done | rfl | (simp only [List.length_drop, List.length_take]; rfl)) ?_; (with_reducible refine (railplankeep_Source_Next.calls g122 t120 t128 8 t129 t130 w _ ?side1 ?side2 A6.out).mono ?_); (case side1 => repeat (first | (with_reducible first | exact HI122.out | apply IsS57.alloc | apply IsS57.drewN | apply IsS57.drew | apply IsS57.set_1 | refine IsS57.far ?_ NB122_119.out _) | exact HI122.out)); (case side2 => repeat (first | (with_reducible first | exact HB.out | apply below_alloc | apply pw_below_drewN | apply below_drew1 | refine below_set ?_ (IsS57.ge HI122.out) | refine below_set ?_ GE119.out) | exact HB.out)); rintro e w12 ⟨rfl, hi, hb, hk⟩; refine ⟨_, rfl, ?_⟩; have n0_ := Aside0.mk (KeepBut.blk hk (g' := gb119) (o := .cells #[.string (⟨#[]⟩ : ByteArray), .int .i64 0, .int .i64 0, .int .i64 0, .int .i64 0] 26 (0, 0)) (by (with_reducible repeat (first | refine blk_drewN ?_ _ | refine blk_drew ?_ | refine blk_alloc ?_ _)); exact BK119.out) NB119_122.out (by simp)); have n1_ := Aside0.mk (hb); have n2_ := Aside0.mk (hi); clear BK119; clear HB; clear HI122; have BK119 := n0_; have HB := n1_; have HI122 := n2_; clear n0_ n1_ n2_; (try clear hb); (try clear hb2); (try clear hk); (try clear hi); have hnb13 := NB119_122.out; have hnc13 := NB122_119.out; have hcz14_0 : w12.cell? ⟨gb119, 0, none⟩ = some (.string (⟨#[]⟩ : ByteArray)) := (blk_cell BK119.out 0).trans rfl; have hcz14_1 : w12.cell? ⟨gb119, 1, none⟩ = some (.int .i64 0) := (blk_cell BK119.out 1).trans rfl; have hcz14_2 : w12.cell? ⟨gb119, 2, none⟩ = some (.int .i64 0) := (blk_cell BK119.out 2).trans rfl; have hcz14_3 : w12.cell? ⟨gb119, 3, none⟩ = some (.int .i64 0) := (blk_cell BK119.out 3).trans rfl; have hcz14_4 : w12.cell? ⟨gb119, 4, none⟩ = some (.int .i64 0) := (blk_cell BK119.out 4).trans rfl; have hfz14_0 := blk_frozen BK119.out 0; have hfz14_1 := blk_frozen BK119.out 1; have hfz14_2 := blk_frozen BK119.out 2; have hfz14_3 := blk_frozen BK119.out 3; have hfz14_4 := blk_frozen BK119.out 4))
  refine bodyPost_ret (results_cell_row rfl _ _ gb119 26 #[.string (⟨#[88]⟩ : ByteArray), .int .i64 (wrap64 (1 + t123)), .int .i64 (wrap64 (5000 + (wrap64 (2500 * t125)))), .int .i64 (wrap64 (200 + (wrap64 (100 * t127)))), .int .i64 (wrap64 (200 + (wrap64 (100 * t129))))] (0, 0) _ rfl (by (with_reducible repeat (first | refine blk_drewN ?_ _ | refine blk_drew ?_ | refine blk_alloc ?_ _)); refine blk_put (cs := #[.string (⟨#[88]⟩ : ByteArray), .int .i64 (wrap64 (1 + t123)), .int .i64 (wrap64 (5000 + (wrap64 (2500 * t125)))), .int .i64 (wrap64 (200 + (wrap64 (100 * t127)))), .int .i64 0]) ?_ 4 _ rfl; (with_reducible repeat (first | refine blk_drewN ?_ _ | refine blk_drew ?_ | refine blk_alloc ?_ _)); refine blk_put (cs := #[.string (⟨#[88]⟩ : ByteArray), .int .i64 (wrap64 (1 + t123)), .int .i64 (wrap64 (5000 + (wrap64 (2500 * t125)))), .int .i64 0, .int .i64 0]) ?_ 3 _ rfl; (with_reducible repeat (first | refine blk_drewN ?_ _ | refine blk_drew ?_ | refine blk_alloc ?_ _)); refine blk_put (cs := #[.string (⟨#[88]⟩ : ByteArray), .int .i64 (wrap64 (1 + t123)), .int .i64 0, .int .i64 0, .int .i64 0]) ?_ 2 _ rfl; (with_reducible repeat (first | refine blk_drewN ?_ _ | refine blk_drew ?_ | refine blk_alloc ?_ _)); refine blk_put (cs := #[.string (⟨#[88]⟩ : ByteArray), .int .i64 0, .int .i64 0, .int .i64 0, .int .i64 0]) ?_ 1 _ rfl; (with_reducible repeat (first | refine blk_drewN ?_ _ | refine blk_drew ?_ | refine blk_alloc ?_ _)); refine blk_put (cs := #[.string (⟨#[]⟩ : ByteArray), .int .i64 0, .int .i64 0, .int .i64 0, .int .i64 0]) ?_ 0 _ rfl; (with_reducible repeat (first | refine blk_drewN ?_ _ | refine blk_drew ?_ | refine blk_alloc ?_ _)); exact BK119.out) Try.underlying26 rfl (by kernel_rfl)) rfl ?_
  exact ⟨by first | rfl | (simp [errW_none, errW_some] <;> rfl) | (simp [*, errW_none, errW_some] <;> rfl), by repeat (first | (with_reducible first | exact HB.out | apply below_alloc | apply pw_below_drewN | apply below_drew1 | refine below_set ?_ (IsS57.ge HI122.out) | refine below_set ?_ GE119.out) | exact HB.out)⟩

/-! ### dynamics_within: function 25 -/
def dynamics_within.f (a0 : Int) (a1 : Int) (a2 : Int) : Option (Bool) := if a0 ≥ a1 then (some (decide (a0 ≤ a2))) else (some false)
set_option maxHeartbeats 8000000 in
set_option maxRecDepth 100000 in
theorem dynamics_within.calls (a0 : Int) (a1 : Int) (a2 : Int) (r : Bool) (w : World) (h : dynamics_within.f a0 a1 a2 = some r) :
    Calls Try.prog 25 #[.int .i64 a0, .int .i64 a1, .int .i64 a2] w fun e w' => e = .returned (.bool r) ∧ Drawn0 w w' := by
  have H : (if a0 ≥ a1 then (some (decide (a0 ≤ a2))) else (some false)) = some r := h
  clear h
  by_cases c4 : a0 ≥ a1
  · rw [if_pos c4] at H
    have c4b0 : decide (a1 ≤ a0) = true := decide_eq_true c4
    clear c4
    obtain rfl := Option.some.inj H
    go_enter Try.func25, Try.ntmps25
    go_wp2
    go_ret
    exact ⟨by first | rfl | (simp; done) | (simp [*]; done), by repeat (first | exact Drawn0.refl _ | apply Drawn0.step)⟩
  · rw [if_neg c4] at H
    have c4b0 : decide (a1 ≤ a0) = false := decide_eq_false c4
    clear c4
    obtain rfl := Option.some.inj H
    go_enter Try.func25, Try.ntmps25
    go_wp2
    go_ret
    exact ⟨by first | rfl | (simp; done) | (simp [*]; done), by repeat (first | exact Drawn0.refl _ | apply Drawn0.step)⟩

/-! ### dynamics_Check: function 15 -/
def dynamics_Check.f (a0_0 : ByteArray) (a0_1 : Int) (a0_2 : Int) (a0_3 : Int) (a0_4 : Int) : Option (Bool) := (dynamics_within.f a0_1 1 40).bind fun t132 => (if t132 = true then ((dynamics_within.f a0_2 1000 100000).bind fun t133 => (if t133 = true then ((dynamics_within.f a0_3 100 2000).bind fun t134 => (if t134 = true then ((dynamics_within.f a0_4 100 2000).bind fun t135 => (some t135)) else (some false))) else (some false))) else (some false))
set_option maxHeartbeats 8000000 in
set_option maxRecDepth 100000 in
theorem dynamics_Check.calls (a0_0 : ByteArray) (a0_1 : Int) (a0_2 : Int) (a0_3 : Int) (a0_4 : Int) (r : Bool) (w : World) (h : dynamics_Check.f a0_0 a0_1 a0_2 a0_3 a0_4 = some r) :
    Calls Try.prog 15 #[.agg #[.string a0_0, .int .i64 a0_1, .int .i64 a0_2, .int .i64 a0_3, .int .i64 a0_4]] w fun e w' => e = .returned (.bool r) ∧ Below w.heap.size w w' := by
  have hu26 := Try.underlying26
  have HB := Aside0.mk (Below.refl w.heap.size w)
  have H : ((dynamics_within.f a0_1 1 40).bind fun t132 => (if t132 = true then ((dynamics_within.f a0_2 1000 100000).bind fun t133 => (if t133 = true then ((dynamics_within.f a0_3 100 2000).bind fun t134 => (if t134 = true then ((dynamics_within.f a0_4 100 2000).bind fun t135 => (some t135)) else (some false))) else (some false))) else (some false))) = some r := h
  clear h
  replace H := Option.bind_eq_some_iff.mp H
  obtain ⟨t132, A20, H⟩ := H
  replace H : (if t132 = true then ((dynamics_within.f a0_2 1000 100000).bind fun t133 => (if t133 = true then ((dynamics_within.f a0_3 100 2000).bind fun t134 => (if t134 = true then ((dynamics_within.f a0_4 100 2000).bind fun t135 => (some t135)) else (some false))) else (some false))) else (some false)) = some r := H
  have A2 := Aside0.mk A20
  clear A20
  by_cases c3 : t132 = true
  · subst c3
    have H1 : ((dynamics_within.f a0_2 1000 100000).bind fun t133 => (if t133 = true then ((dynamics_within.f a0_3 100 2000).bind fun t134 => (if t134 = true then ((dynamics_within.f a0_4 100 2000).bind fun t135 => (some t135)) else (some false))) else (some false))) = some r := by rw [if_pos rfl] at H; exact H
    clear H
    have H := H1
    clear H1
    replace H := Option.bind_eq_some_iff.mp H
    obtain ⟨t133, A40, H⟩ := H
    replace H : (if t133 = true then ((dynamics_within.f a0_3 100 2000).bind fun t134 => (if t134 = true then ((dynamics_within.f a0_4 100 2000).bind fun t135 => (some t135)) else (some false))) else (some false)) = some r := H
    have A4 := Aside0.mk A40
    clear A40
    by_cases c5 : t133 = true
    · subst c5
      have H1 : ((dynamics_within.f a0_3 100 2000).bind fun t134 => (if t134 = true then ((dynamics_within.f a0_4 100 2000).bind fun t135 => (some t135)) else (some false))) = some r := by rw [if_pos rfl] at H; exact H
      clear H
      have H := H1
      clear H1
      replace H := Option.bind_eq_some_iff.mp H
      obtain ⟨t134, A60, H⟩ := H
      replace H : (if t134 = true then ((dynamics_within.f a0_4 100 2000).bind fun t135 => (some t135)) else (some false)) = some r := H
      have A6 := Aside0.mk A60
      clear A60
      by_cases c7 : t134 = true
      · subst c7
        have H1 : ((dynamics_within.f a0_4 100 2000).bind fun t135 => (some t135)) = some r := by rw [if_pos rfl] at H; exact H
        clear H
        have H := H1
        clear H1
        replace H := Option.bind_eq_some_iff.mp H
        obtain ⟨t135, A80, H⟩ := H
        replace H : (some t135) = some r := H
        have A8 := Aside0.mk A80
        clear A80
        obtain rfl := Option.some.inj H
        go_enter Try.func15, Try.ntmps15
        go_wp2_with (first | ((with_reducible refine gate_dst (N := 1) rfl ?_); refine box_event ?hg (N := 1) ?hd (cs := #[.string a0_0, .int .i64 a0_1, .int .i64 a0_2, .int .i64 a0_3, .int .i64 a0_4]) (t := 26) ?hr ?_; (case hd => rfl); (case hg => rfl); (case hr => first | (go_simp; done) | (go_simp; rfl)); intro gb131 hg w9 hbox hb; have n0_ := Aside0.mk (below_step (by repeat (first | (with_reducible first | exact HB.out | apply below_alloc | apply pw_below_drewN | apply below_drew1) | exact HB.out)) hb); have n1_ := Aside0.mk (hbox); have n2_ := Aside0.mk ((by rw [hg]; exact (below_size (by repeat (first | (with_reducible first | exact HB.out | apply below_alloc | apply pw_below_drewN | apply below_drew1) | exact HB.out))) : w.heap.size ≤ gb131)); have n3_ := Aside0.mk ((by rw [hg]; exact (below_size (by repeat (first | (with_reducible first | exact HB.out | apply below_alloc | apply pw_below_drewN | apply below_drew1) | exact HB.out))) : w.heap.size ≤ gb131)); clear HB; have HB := n0_; have BK131 := n1_; have GW131 := n2_; have GE131 := n3_; clear n0_ n1_ n2_ n3_; clear hb hbox hg; have hcz10_0 : w9.cell? ⟨gb131, 0, none⟩ = some (.string a0_0) := (blk_cell BK131.out 0).trans rfl; have hcz10_1 : w9.cell? ⟨gb131, 1, none⟩ = some (.int .i64 a0_1) := (blk_cell BK131.out 1).trans rfl; have hcz10_2 : w9.cell? ⟨gb131, 2, none⟩ = some (.int .i64 a0_2) := (blk_cell BK131.out 2).trans rfl; have hcz10_3 : w9.cell? ⟨gb131, 3, none⟩ = some (.int .i64 a0_3) := (blk_cell BK131.out 3).trans rfl; have hcz10_4 : w9.cell? ⟨gb131, 4, none⟩ = some (.int .i64 a0_4) := (blk_cell BK131.out 4).trans rfl; have hfz10_0 := blk_frozen BK131.out 0; have hfz10_1 := blk_frozen BK131.out 1; have hfz10_2 := blk_frozen BK131.out 2; have hfz10_3 := blk_frozen BK131.out 3; have hfz10_4 := blk_frozen BK131.out 4) | ((with_reducible refine gate_callee (f := 25) rfl ?_); refine goesL_ (some 5) rfl rfl Try.func25 (by kernel_rfl) rfl #[.int .i64 a0_1, .int .i64 1, .int .i64 40] rfl (by (try simp only [List.map_toArray, List.map_cons, List.map_nil]); first | done | rfl | (simp only [List.length_drop, List.length_take]; rfl)) ?_; (with_reducible refine (dynamics_within.calls a0_1 1 40 true _ A2.out).mono ?_); rintro e w' ⟨rfl, ⟨nd, rfl⟩⟩; refine ⟨_, rfl, ?_⟩) | (go_at_call 25; (with_reducible refine (dynamics_within.calls a0_2 1000 100000 true _ A4.out).mono ?_); rintro e w' ⟨rfl, ⟨nd, rfl⟩⟩) | (go_at_call 25; (with_reducible refine (dynamics_within.calls a0_3 100 2000 true _ A6.out).mono ?_); rintro e w' ⟨rfl, ⟨nd, rfl⟩⟩) | (go_at_call 25; (with_reducible refine (dynamics_within.calls a0_4 100 2000 t135 _ A8.out).mono ?_); rintro e w' ⟨rfl, ⟨nd, rfl⟩⟩))
        go_ret
        exact ⟨by first | rfl | (simp [errW_none, errW_some] <;> rfl) | (simp [*, errW_none, errW_some] <;> rfl), by repeat (first | (with_reducible first | exact HB.out | apply below_alloc | apply pw_below_drewN | apply below_drew1 | refine below_set ?_ GE131.out) | exact HB.out)⟩
      · replace c7 := Bool.eq_false_iff.mpr c7
        subst c7
        have H1 : (some false) = some r := by rw [if_neg (show ¬ (false = true) by decide)] at H; exact H
        clear H
        have H := H1
        clear H1
        obtain rfl := Option.some.inj H
        go_enter Try.func15, Try.ntmps15
        go_wp2_with (first | ((with_reducible refine gate_dst (N := 1) rfl ?_); refine box_event ?hg (N := 1) ?hd (cs := #[.string a0_0, .int .i64 a0_1, .int .i64 a0_2, .int .i64 a0_3, .int .i64 a0_4]) (t := 26) ?hr ?_; (case hd => rfl); (case hg => rfl); (case hr => first | (go_simp; done) | (go_simp; rfl)); intro gb131 hg w11 hbox hb; have n0_ := Aside0.mk (below_step (by repeat (first | (with_reducible first | exact HB.out | apply below_alloc | apply pw_below_drewN | apply below_drew1) | exact HB.out)) hb); have n1_ := Aside0.mk (hbox); have n2_ := Aside0.mk ((by rw [hg]; exact (below_size (by repeat (first | (with_reducible first | exact HB.out | apply below_alloc | apply pw_below_drewN | apply below_drew1) | exact HB.out))) : w.heap.size ≤ gb131)); have n3_ := Aside0.mk ((by rw [hg]; exact (below_size (by repeat (first | (with_reducible first | exact HB.out | apply below_alloc | apply pw_below_drewN | apply below_drew1) | exact HB.out))) : w.heap.size ≤ gb131)); clear HB; have HB := n0_; have BK131 := n1_; have GW131 := n2_; have GE131 := n3_; clear n0_ n1_ n2_ n3_; clear hb hbox hg; have hcz12_0 : w11.cell? ⟨gb131, 0, none⟩ = some (.string a0_0) := (blk_cell BK131.out 0).trans rfl; have hcz12_1 : w11.cell? ⟨gb131, 1, none⟩ = some (.int .i64 a0_1) := (blk_cell BK131.out 1).trans rfl; have hcz12_2 : w11.cell? ⟨gb131, 2, none⟩ = some (.int .i64 a0_2) := (blk_cell BK131.out 2).trans rfl; have hcz12_3 : w11.cell? ⟨gb131, 3, none⟩ = some (.int .i64 a0_3) := (blk_cell BK131.out 3).trans rfl; have hcz12_4 : w11.cell? ⟨gb131, 4, none⟩ = some (.int .i64 a0_4) := (blk_cell BK131.out 4).trans rfl; have hfz12_0 := blk_frozen BK131.out 0; have hfz12_1 := blk_frozen BK131.out 1; have hfz12_2 := blk_frozen BK131.out 2; have hfz12_3 := blk_frozen BK131.out 3; have hfz12_4 := blk_frozen BK131.out 4) | ((with_reducible refine gate_callee (f := 25) rfl ?_); refine goesL_ (some 5) rfl rfl Try.func25 (by kernel_rfl) rfl #[.int .i64 a0_1, .int .i64 1, .int .i64 40] rfl (by (try simp only [List.map_toArray, List.map_cons, List.map_nil]); first | done | rfl | (simp only [List.length_drop, List.length_take]; rfl)) ?_; (with_reducible refine (dynamics_within.calls a0_1 1 40 true _ A2.out).mono ?_); rintro e w' ⟨rfl, ⟨nd, rfl⟩⟩; refine ⟨_, rfl, ?_⟩) | (go_at_call 25; (with_reducible refine (dynamics_within.calls a0_2 1000 100000 true _ A4.out).mono ?_); rintro e w' ⟨rfl, ⟨nd, rfl⟩⟩) | (go_at_call 25; (with_reducible refine (dynamics_within.calls a0_3 100 2000 false _ A6.out).mono ?_); rintro e w' ⟨rfl, ⟨nd, rfl⟩⟩))
        go_ret
        exact ⟨by first | rfl | (simp [errW_none, errW_some] <;> rfl) | (simp [*, errW_none, errW_some] <;> rfl), by repeat (first | (with_reducible first | exact HB.out | apply below_alloc | apply pw_below_drewN | apply below_drew1 | refine below_set ?_ GE131.out) | exact HB.out)⟩
    · replace c5 := Bool.eq_false_iff.mpr c5
      subst c5
      have H1 : (some false) = some r := by rw [if_neg (show ¬ (false = true) by decide)] at H; exact H
      clear H
      have H := H1
      clear H1
      obtain rfl := Option.some.inj H
      go_enter Try.func15, Try.ntmps15
      go_wp2_with (first | ((with_reducible refine gate_dst (N := 1) rfl ?_); refine box_event ?hg (N := 1) ?hd (cs := #[.string a0_0, .int .i64 a0_1, .int .i64 a0_2, .int .i64 a0_3, .int .i64 a0_4]) (t := 26) ?hr ?_; (case hd => rfl); (case hg => rfl); (case hr => first | (go_simp; done) | (go_simp; rfl)); intro gb131 hg w13 hbox hb; have n0_ := Aside0.mk (below_step (by repeat (first | (with_reducible first | exact HB.out | apply below_alloc | apply pw_below_drewN | apply below_drew1) | exact HB.out)) hb); have n1_ := Aside0.mk (hbox); have n2_ := Aside0.mk ((by rw [hg]; exact (below_size (by repeat (first | (with_reducible first | exact HB.out | apply below_alloc | apply pw_below_drewN | apply below_drew1) | exact HB.out))) : w.heap.size ≤ gb131)); have n3_ := Aside0.mk ((by rw [hg]; exact (below_size (by repeat (first | (with_reducible first | exact HB.out | apply below_alloc | apply pw_below_drewN | apply below_drew1) | exact HB.out))) : w.heap.size ≤ gb131)); clear HB; have HB := n0_; have BK131 := n1_; have GW131 := n2_; have GE131 := n3_; clear n0_ n1_ n2_ n3_; clear hb hbox hg; have hcz14_0 : w13.cell? ⟨gb131, 0, none⟩ = some (.string a0_0) := (blk_cell BK131.out 0).trans rfl; have hcz14_1 : w13.cell? ⟨gb131, 1, none⟩ = some (.int .i64 a0_1) := (blk_cell BK131.out 1).trans rfl; have hcz14_2 : w13.cell? ⟨gb131, 2, none⟩ = some (.int .i64 a0_2) := (blk_cell BK131.out 2).trans rfl; have hcz14_3 : w13.cell? ⟨gb131, 3, none⟩ = some (.int .i64 a0_3) := (blk_cell BK131.out 3).trans rfl; have hcz14_4 : w13.cell? ⟨gb131, 4, none⟩ = some (.int .i64 a0_4) := (blk_cell BK131.out 4).trans rfl; have hfz14_0 := blk_frozen BK131.out 0; have hfz14_1 := blk_frozen BK131.out 1; have hfz14_2 := blk_frozen BK131.out 2; have hfz14_3 := blk_frozen BK131.out 3; have hfz14_4 := blk_frozen BK131.out 4) | ((with_reducible refine gate_callee (f := 25) rfl ?_); refine goesL_ (some 5) rfl rfl Try.func25 (by kernel_rfl) rfl #[.int .i64 a0_1, .int .i64 1, .int .i64 40] rfl (by (try simp only [List.map_toArray, List.map_cons, List.map_nil]); first | done | rfl | (simp only [List.length_drop, List.length_take]; rfl)) ?_; (with_reducible refine (dynamics_within.calls a0_1 1 40 true _ A2.out).mono ?_); rintro e w' ⟨rfl, ⟨nd, rfl⟩⟩; refine ⟨_, rfl, ?_⟩) | (go_at_call 25; (with_reducible refine (dynamics_within.calls a0_2 1000 100000 false _ A4.out).mono ?_); rintro e w' ⟨rfl, ⟨nd, rfl⟩⟩))
      go_ret
      exact ⟨by first | rfl | (simp [errW_none, errW_some] <;> rfl) | (simp [*, errW_none, errW_some] <;> rfl), by repeat (first | (with_reducible first | exact HB.out | apply below_alloc | apply pw_below_drewN | apply below_drew1 | refine below_set ?_ GE131.out) | exact HB.out)⟩
  · replace c3 := Bool.eq_false_iff.mpr c3
    subst c3
    have H1 : (some false) = some r := by rw [if_neg (show ¬ (false = true) by decide)] at H; exact H
    clear H
    have H := H1
    clear H1
    obtain rfl := Option.some.inj H
    go_enter Try.func15, Try.ntmps15
    go_wp2_with (first | ((with_reducible refine gate_dst (N := 1) rfl ?_); refine box_event ?hg (N := 1) ?hd (cs := #[.string a0_0, .int .i64 a0_1, .int .i64 a0_2, .int .i64 a0_3, .int .i64 a0_4]) (t := 26) ?hr ?_; (case hd => rfl); (case hg => rfl); (case hr => first | (go_simp; done) | (go_simp; rfl)); intro gb131 hg w15 hbox hb; have n0_ := Aside0.mk (below_step (by repeat (first | (with_reducible first | exact HB.out | apply below_alloc | apply pw_below_drewN | apply below_drew1) | exact HB.out)) hb); have n1_ := Aside0.mk (hbox); have n2_ := Aside0.mk ((by rw [hg]; exact (below_size (by repeat (first | (with_reducible first | exact HB.out | apply below_alloc | apply pw_below_drewN | apply below_drew1) | exact HB.out))) : w.heap.size ≤ gb131)); have n3_ := Aside0.mk ((by rw [hg]; exact (below_size (by repeat (first | (with_reducible first | exact HB.out | apply below_alloc | apply pw_below_drewN | apply below_drew1) | exact HB.out))) : w.heap.size ≤ gb131)); clear HB; have HB := n0_; have BK131 := n1_; have GW131 := n2_; have GE131 := n3_; clear n0_ n1_ n2_ n3_; clear hb hbox hg; have hcz16_0 : w15.cell? ⟨gb131, 0, none⟩ = some (.string a0_0) := (blk_cell BK131.out 0).trans rfl; have hcz16_1 : w15.cell? ⟨gb131, 1, none⟩ = some (.int .i64 a0_1) := (blk_cell BK131.out 1).trans rfl; have hcz16_2 : w15.cell? ⟨gb131, 2, none⟩ = some (.int .i64 a0_2) := (blk_cell BK131.out 2).trans rfl; have hcz16_3 : w15.cell? ⟨gb131, 3, none⟩ = some (.int .i64 a0_3) := (blk_cell BK131.out 3).trans rfl; have hcz16_4 : w15.cell? ⟨gb131, 4, none⟩ = some (.int .i64 a0_4) := (blk_cell BK131.out 4).trans rfl; have hfz16_0 := blk_frozen BK131.out 0; have hfz16_1 := blk_frozen BK131.out 1; have hfz16_2 := blk_frozen BK131.out 2; have hfz16_3 := blk_frozen BK131.out 3; have hfz16_4 := blk_frozen BK131.out 4) | ((with_reducible refine gate_callee (f := 25) rfl ?_); refine goesL_ (some 5) rfl rfl Try.func25 (by kernel_rfl) rfl #[.int .i64 a0_1, .int .i64 1, .int .i64 40] rfl (by (try simp only [List.map_toArray, List.map_cons, List.map_nil]); first | done | rfl | (simp only [List.length_drop, List.length_take]; rfl)) ?_; (with_reducible refine (dynamics_within.calls a0_1 1 40 false _ A2.out).mono ?_); rintro e w' ⟨rfl, ⟨nd, rfl⟩⟩; refine ⟨_, rfl, ?_⟩))
    go_ret
    exact ⟨by first | rfl | (simp [errW_none, errW_some] <;> rfl) | (simp [*, errW_none, errW_some] <;> rfl), by repeat (first | (with_reducible first | exact HB.out | apply below_alloc | apply pw_below_drewN | apply below_drew1 | refine below_set ?_ GE131.out) | exact HB.out)⟩

/-! ### dynamics_check: function 26 -/
def dynamics_check.l0 : Nat → List (S34) → Int → List (S34) → Int → Int → Option (Int)
  | 0, _, _, _, _, _ => none
  | k + 1, x0, x1, x17, x18, x19 => if x19 < x18 then (if 0 ≤ x19 then (if x19 < (x17.length : Int) then ((dynamics_within.f ((rd_T34 x17 x19).f0) 1000 100000).bind fun t141 => (if t141 = true then ((dynamics_within.f ((rd_T34 x17 x19).f1) (-40) 40).bind fun t142 => (if t142 = true then (dynamics_check.l0 k x0 x1 x17 x18 (wrap64 (x19 + 1))) else (some 4))) else (some 4))) else (none)) else (none)) else ((dynamics_within.f x1 0 (wrap64 ((x0.length : Int) - 2))).bind fun t138 => (if t138 = true then (some 0) else (some 4)))
def dynamics_check.f (k : Nat) (l0 : List (S34)) (a1 : Int) (a2_0 : ByteArray) (a2_1 : Int) (a2_2 : Int) (a2_3 : Int) (a2_4 : Int) : Option (Int) := (dynamics_Check.f a2_0 a2_1 a2_2 a2_3 a2_4).bind fun t137 => (if t137 = true then (if (l0.length : Int) > 4000 then (some 7) else (dynamics_check.l0 k l0 a1 l0 (l0.length : Int) 0)) else (some 1))
theorem dynamics_check.mono_l : ∀ k, (∀ y0 y1 y2 y3 y4, LeO (dynamics_check.l0 k y0 y1 y2 y3 y4) (dynamics_check.l0 (k + 1) y0 y1 y2 y3 y4))
  | 0 => fun _ _ _ _ _ r h => by simp [dynamics_check.l0] at h
  | k + 1 => by
    have ih0 := dynamics_check.mono_l k
    · intro y0 y1 y2 y3 y4
      unfold dynamics_check.l0
      repeat' first
      | (with_reducible exact ih0 _ _ _ _ _)
      | (with_reducible exact LeO.refl _)
      | (with_reducible exact LeO.none _)
      | (with_reducible refine LeO.ite ?_ ?_)
      | (with_reducible refine LeO.bind ?_ (fun _ => ?_))
      | exact ih0 _ _ _ _ _
      | exact LeO.none _
      | refine LeO.ite ?_ ?_
      | refine LeO.bind ?_ (fun _ => ?_)
theorem dynamics_check.mono : ∀ a0 a1 a2 a3 a4 a5 a6 k, LeO (dynamics_check.f k a0 a1 a2 a3 a4 a5 a6) (dynamics_check.f (k + 1) a0 a1 a2 a3 a4 a5 a6) := by
  intro a0 a1 a2 a3 a4 a5 a6 k
  have ih0 := dynamics_check.mono_l k
  unfold dynamics_check.f
  repeat' first
      | (with_reducible exact ih0 _ _ _ _ _)
      | (with_reducible exact LeO.refl _)
      | (with_reducible exact LeO.none _)
      | (with_reducible refine LeO.ite ?_ ?_)
      | (with_reducible refine LeO.bind ?_ (fun _ => ?_))
      | exact ih0 _ _ _ _ _
      | exact LeO.none _
      | refine LeO.ite ?_ ?_
      | refine LeO.bind ?_ (fun _ => ?_)
set_option maxHeartbeats 8000000 in
set_option maxRecDepth 100000 in
theorem dynamics_check.calls (k : Nat) (A0 : Option Addr) (c0 : Nat) (l0 : List (S34)) (a1 : Int) (a2_0 : ByteArray) (a2_1 : Int) (a2_2 : Int) (a2_3 : Int) (a2_4 : Int) (r : Int) (w : World) (hr0 : Kd.C k34 w A0 l0.length l0) (hc0 : l0.length ≤ c0) (h : dynamics_check.f k l0 a1 a2_0 a2_1 a2_2 a2_3 a2_4 = some r) :
    Calls Try.prog 26 #[.slice A0 l0.length c0, .int .i64 a1, .agg #[.string a2_0, .int .i64 a2_1, .int .i64 a2_2, .int .i64 a2_3, .int .i64 a2_4]] w fun e w' => e = .returned (.int .i64 r) ∧ Below w.heap.size w w' := by
  have hu26 := Try.underlying26
  have hu34 := Try.underlying34
  have HR0 := Aside0.mk hr0
  have HC0 := Aside0.mk hc0
  clear hr0 hc0
  have HB := Aside0.mk (Below.refl w.heap.size w)
  have H : ((dynamics_Check.f a2_0 a2_1 a2_2 a2_3 a2_4).bind fun t137 => (if t137 = true then (if (l0.length : Int) > 4000 then (some 7) else (dynamics_check.l0 k l0 a1 l0 (l0.length : Int) 0)) else (some 1))) = some r := h
  clear h
  replace H := Option.bind_eq_some_iff.mp H
  obtain ⟨t137, A40, H⟩ := H
  replace H : (if t137 = true then (if (l0.length : Int) > 4000 then (some 7) else (dynamics_check.l0 k l0 a1 l0 (l0.length : Int) 0)) else (some 1)) = some r := H
  have A4 := Aside0.mk A40
  clear A40
  by_cases c5 : t137 = true
  · subst c5
    have H1 : (if (l0.length : Int) > 4000 then (some 7) else (dynamics_check.l0 k l0 a1 l0 (l0.length : Int) 0)) = some r := by rw [if_pos rfl] at H; exact H
    clear H
    have H := H1
    clear H1
    by_cases c6 : (l0.length : Int) > 4000
    · rw [if_pos c6] at H
      have c6b0 : decide (4000 < (l0.length : Int)) = true := decide_eq_true c6
      have c6b1 : decide (4000 < l0.length) = true := decide_eq_true (by omega)
      clear c6
      obtain rfl := Option.some.inj H
      go_enter Try.func26, Try.ntmps26
      go_wp2_with (first | ((with_reducible refine gate_dst (N := 5) rfl ?_); refine box_event ?hg (N := 5) ?hd (cs := #[.string a2_0, .int .i64 a2_1, .int .i64 a2_2, .int .i64 a2_3, .int .i64 a2_4]) (t := 26) ?hr ?_; (case hd => rfl); (case hg => rfl); (case hr => first | (go_simp; done) | (go_simp; rfl)); intro gb136 hg w7 hbox hb; have n0_ := Aside0.mk (below_step (by repeat (first | (with_reducible first | exact HB.out | apply below_alloc | apply pw_below_drewN | apply below_drew1) | exact HB.out)) hb); have n1_ := Aside0.mk (hbox); have n2_ := Aside0.mk ((by rw [hg]; exact (below_size (by repeat (first | (with_reducible first | exact HB.out | apply below_alloc | apply pw_below_drewN | apply below_drew1) | exact HB.out))) : w.heap.size ≤ gb136)); have n3_ := Aside0.mk ((by rw [hg]; exact (below_size (by repeat (first | (with_reducible first | exact HB.out | apply below_alloc | apply pw_below_drewN | apply below_drew1) | exact HB.out))) : w.heap.size ≤ gb136)); clear HB; have HB := n0_; have BK136 := n1_; have GW136 := n2_; have GE136 := n3_; clear n0_ n1_ n2_ n3_; clear hb hbox hg; have hcz8_0 : w7.cell? ⟨gb136, 0, none⟩ = some (.string a2_0) := (blk_cell BK136.out 0).trans rfl; have hcz8_1 : w7.cell? ⟨gb136, 1, none⟩ = some (.int .i64 a2_1) := (blk_cell BK136.out 1).trans rfl; have hcz8_2 : w7.cell? ⟨gb136, 2, none⟩ = some (.int .i64 a2_2) := (blk_cell BK136.out 2).trans rfl; have hcz8_3 : w7.cell? ⟨gb136, 3, none⟩ = some (.int .i64 a2_3) := (blk_cell BK136.out 3).trans rfl; have hcz8_4 : w7.cell? ⟨gb136, 4, none⟩ = some (.int .i64 a2_4) := (blk_cell BK136.out 4).trans rfl; have hfz8_0 := blk_frozen BK136.out 0; have hfz8_1 := blk_frozen BK136.out 1; have hfz8_2 := blk_frozen BK136.out 2; have hfz8_3 := blk_frozen BK136.out 3; have hfz8_4 := blk_frozen BK136.out 4) | ((with_reducible refine gate_callee (f := 15) rfl ?_); refine goesL_ (some 11) rfl rfl Try.func15 (by kernel_rfl) rfl #[.agg #[.string a2_0, .int .i64 a2_1, .int .i64 a2_2, .int .i64 a2_3, .int .i64 a2_4]] rfl (by (try simp only [List.map_toArray, List.map_cons, List.map_nil]); first | done | rfl | (simp only [List.length_drop, List.length_take]; rfl)) ?_; (with_reducible refine (dynamics_Check.calls a2_0 a2_1 a2_2 a2_3 a2_4 true _ A4.out).mono ?_); rintro e w9 ⟨rfl, hb⟩; refine ⟨_, rfl, ?_⟩; have n0_ := Aside0.mk (blk_below (g := gb136) (o := .cells #[.string a2_0, .int .i64 a2_1, .int .i64 a2_2, .int .i64 a2_3, .int .i64 a2_4] 26 (0, 0)) (by (with_reducible repeat (first | refine blk_drewN ?_ _ | refine blk_drew ?_ | refine blk_alloc ?_ _)); exact BK136.out) hb); have n1_ := Aside0.mk (below_step (by repeat (first | (with_reducible first | exact HB.out | apply below_alloc | apply pw_below_drewN | apply below_drew1 | refine below_set ?_ GE136.out) | exact HB.out)) hb); clear BK136; clear HB; have BK136 := n0_; have HB := n1_; clear n0_ n1_; (try clear hb); (try clear hb2); (try clear hk); (try clear hi)))
      go_ret
      exact ⟨by first | rfl | (simp [errW_none, errW_some] <;> rfl) | (simp [*, errW_none, errW_some] <;> rfl), by repeat (first | (with_reducible first | exact HB.out | apply below_alloc | apply pw_below_drewN | apply below_drew1 | refine below_set ?_ GE136.out) | exact HB.out)⟩
    · rw [if_neg c6] at H
      have c6b0 : decide (4000 < (l0.length : Int)) = false := decide_eq_false c6
      have c6b1 : decide (4000 < l0.length) = false := decide_eq_false (by omega)
      clear c6
      have H' := Aside0.mk H
      clear H
      go_enter Try.func26, Try.ntmps26
      go_wp2_with (first | ((with_reducible refine gate_dst (N := 5) rfl ?_); refine box_event ?hg (N := 5) ?hd (cs := #[.string a2_0, .int .i64 a2_1, .int .i64 a2_2, .int .i64 a2_3, .int .i64 a2_4]) (t := 26) ?hr ?_; (case hd => rfl); (case hg => rfl); (case hr => first | (go_simp; done) | (go_simp; rfl)); intro gb136 hg w10 hbox hb; have n0_ := Aside0.mk (below_step (by repeat (first | (with_reducible first | exact HB.out | apply below_alloc | apply pw_below_drewN | apply below_drew1) | exact HB.out)) hb); have n1_ := Aside0.mk (hbox); have n2_ := Aside0.mk ((by rw [hg]; exact (below_size (by repeat (first | (with_reducible first | exact HB.out | apply below_alloc | apply pw_below_drewN | apply below_drew1) | exact HB.out))) : w.heap.size ≤ gb136)); have n3_ := Aside0.mk ((by rw [hg]; exact (below_size (by repeat (first | (with_reducible first | exact HB.out | apply below_alloc | apply pw_below_drewN | apply below_drew1) | exact HB.out))) : w.heap.size ≤ gb136)); clear HB; have HB := n0_; have BK136 := n1_; have GW136 := n2_; have GE136 := n3_; clear n0_ n1_ n2_ n3_; clear hb hbox hg; have hcz11_0 : w10.cell? ⟨gb136, 0, none⟩ = some (.string a2_0) := (blk_cell BK136.out 0).trans rfl; have hcz11_1 : w10.cell? ⟨gb136, 1, none⟩ = some (.int .i64 a2_1) := (blk_cell BK136.out 1).trans rfl; have hcz11_2 : w10.cell? ⟨gb136, 2, none⟩ = some (.int .i64 a2_2) := (blk_cell BK136.out 2).trans rfl; have hcz11_3 : w10.cell? ⟨gb136, 3, none⟩ = some (.int .i64 a2_3) := (blk_cell BK136.out 3).trans rfl; have hcz11_4 : w10.cell? ⟨gb136, 4, none⟩ = some (.int .i64 a2_4) := (blk_cell BK136.out 4).trans rfl; have hfz11_0 := blk_frozen BK136.out 0; have hfz11_1 := blk_frozen BK136.out 1; have hfz11_2 := blk_frozen BK136.out 2; have hfz11_3 := blk_frozen BK136.out 3; have hfz11_4 := blk_frozen BK136.out 4) | ((with_reducible refine gate_callee (f := 15) rfl ?_); refine goesL_ (some 11) rfl rfl Try.func15 (by kernel_rfl) rfl #[.agg #[.string a2_0, .int .i64 a2_1, .int .i64 a2_2, .int .i64 a2_3, .int .i64 a2_4]] rfl (by (try simp only [List.map_toArray, List.map_cons, List.map_nil]); first | done | rfl | (simp only [List.length_drop, List.length_take]; rfl)) ?_; (with_reducible refine (dynamics_Check.calls a2_0 a2_1 a2_2 a2_3 a2_4 true _ A4.out).mono ?_); rintro e w12 ⟨rfl, hb⟩; refine ⟨_, rfl, ?_⟩; have n0_ := Aside0.mk (blk_below (g := gb136) (o := .cells #[.string a2_0, .int .i64 a2_1, .int .i64 a2_2, .int .i64 a2_3, .int .i64 a2_4] 26 (0, 0)) (by (with_reducible repeat (first | refine blk_drewN ?_ _ | refine blk_drew ?_ | refine blk_alloc ?_ _)); exact BK136.out) hb); have n1_ := Aside0.mk (below_step (by repeat (first | (with_reducible first | exact HB.out | apply below_alloc | apply pw_below_drewN | apply below_drew1 | refine below_set ?_ GE136.out) | exact HB.out)) hb); clear BK136; clear HB; have BK136 := n0_; have HB := n1_; clear n0_ n1_; (try clear hb); (try clear hb2); (try clear hk); (try clear hi)))
      go_loopg [19] k (fun kq v19 w' => ∃ (x19_1 : Int), v19 = .int .i64 x19_1 ∧ Aside0 (dynamics_check.l0 kq l0 a1 l0 (l0.length : Int) x19_1 = some r) ∧ Aside0 (kq ≤ k) ∧ Aside0 (w'.heap[gb136]? = some (.cells #[.string a2_0, .int .i64 a2_1, .int .i64 a2_2, .int .i64 a2_3, .int .i64 a2_4] 26 (0, 0))) ∧ Aside0 (Below w.heap.size w w'))
      case atStart => exact ⟨(0), (by first | rfl | (simp; done) | (simp [*]; done)), H', ⟨Nat.le_refl _⟩, ⟨by (with_reducible repeat (first | refine blk_drewN ?_ _ | refine blk_drew ?_ | refine blk_alloc ?_ _)); exact BK136.out⟩, ⟨by repeat (first | (with_reducible first | exact HB.out | apply below_alloc | apply pw_below_drewN | apply below_drew1 | refine below_set ?_ GE136.out) | exact HB.out)⟩⟩
      case round =>
        clear H'
        try clear c1
        try clear c2
        try clear p2
        try clear c5
        try clear c6
        try clear c6b0
        try clear c6b1
        try clear hcz11_0
        try clear hcz11_1
        try clear hcz11_2
        try clear hcz11_3
        try clear hcz11_4
        try clear hcz8_0
        try clear hcz8_1
        try clear hcz8_2
        try clear hcz8_3
        try clear hcz8_4
        try clear hfz11_0
        try clear hfz11_1
        try clear hfz11_2
        try clear hfz11_3
        try clear hfz11_4
        try clear hfz8_0
        try clear hfz8_1
        try clear hfz8_2
        try clear hfz8_3
        try clear hfz8_4
        obtain ⟨x19_1, rfl, HA, HK1, BK136, HB⟩ := hrel
        cases gk with
        | zero => exact absurd HA.out (by simp [dynamics_check.l0])
        | succ k1 =>
          have H := HA.out
          clear HA
          simp only [dynamics_check.l0] at H
          by_cases c13 : x19_1 < (l0.length : Int)
          · rw [if_pos c13] at H
            have c13b0 : decide (x19_1 < (l0.length : Int)) = true := decide_eq_true c13
            clear c13
            by_cases c14 : 0 ≤ x19_1
            · rw [if_pos c14] at H
              have c14b0 : decide (0 ≤ x19_1) = true := decide_eq_true c14
              clear c14
              by_cases c15 : x19_1 < (l0.length : Int)
              · rw [if_pos c15] at H
                have c15b0 : decide (x19_1 < (l0.length : Int)) = true := decide_eq_true c15
                clear c15
                replace H := Option.bind_eq_some_iff.mp H
                obtain ⟨t141, A160, H⟩ := H
                replace H : (if t141 = true then ((dynamics_within.f ((rd_T34 l0 x19_1).f1) (-40) 40).bind fun t142 => (if t142 = true then (dynamics_check.l0 k1 l0 a1 l0 (l0.length : Int) (wrap64 (x19_1 + 1))) else (some 4))) else (some 4)) = some r := H
                have A16 := Aside0.mk A160
                clear A160
                by_cases c17 : t141 = true
                · subst c17
                  have H1 : ((dynamics_within.f ((rd_T34 l0 x19_1).f1) (-40) 40).bind fun t142 => (if t142 = true then (dynamics_check.l0 k1 l0 a1 l0 (l0.length : Int) (wrap64 (x19_1 + 1))) else (some 4))) = some r := by rw [if_pos rfl] at H; exact H
                  clear H
                  have H := H1
                  clear H1
                  replace H := Option.bind_eq_some_iff.mp H
                  obtain ⟨t142, A180, H⟩ := H
                  replace H : (if t142 = true then (dynamics_check.l0 k1 l0 a1 l0 (l0.length : Int) (wrap64 (x19_1 + 1))) else (some 4)) = some r := H
                  have A18 := Aside0.mk A180
                  clear A180
                  by_cases c19 : t142 = true
                  · subst c19
                    have H1 : (dynamics_check.l0 k1 l0 a1 l0 (l0.length : Int) (wrap64 (x19_1 + 1))) = some r := by rw [if_pos rfl] at H; exact H
                    clear H
                    have H := H1
                    clear H1
                    have H' := Aside0.mk H
                    clear H
                    have p139 : 0 ≤ (x19_1 : Int) := of_decide_eq_true (by first | (with_reducible assumption) | assumption)
                    have q139 : x19_1 < (l0.length : Int) := of_decide_eq_true (by first | (with_reducible assumption) | assumption)
                    obtain ⟨ad139, e139, hx139_0, hx139_1⟩ := at_T34 HR0.out x19_1 p139 q139
                    cases e139
                    replace hx139_0 := (HB.out.cell (World.block_lt_of_cell? w _ hx139_0)).trans hx139_0
                    replace hx139_1 := (HB.out.cell (World.block_lt_of_cell? w _ hx139_1)).trans hx139_1
                    replace p139 := eq_true p139
                    replace q139 := eq_true q139
                    go_wp2_with (first | ((with_reducible refine gate_dst (N := 8) rfl ?_); refine box_event ?hg (N := 8) ?hd (cs := #[.int .i64 0, .int .i64 0]) (t := 34) ?hr ?_; (case hd => rfl); (case hg => rfl); (case hr => first | (go_simp; done) | (go_simp; rfl)); intro gb140 hg w20 hbox hb; have n0_ := Aside0.mk (blk_below (g := gb136) (o := .cells #[.string a2_0, .int .i64 a2_1, .int .i64 a2_2, .int .i64 a2_3, .int .i64 a2_4] 26 (0, 0)) (by (with_reducible repeat (first | refine blk_drewN ?_ _ | refine blk_drew ?_ | refine blk_alloc ?_ _)); exact BK136.out) hb); have n1_ := Aside0.mk (below_step (by repeat (first | (with_reducible first | exact HB.out | apply below_alloc | apply pw_below_drewN | apply below_drew1 | refine below_set ?_ GE136.out) | exact HB.out)) hb); have n2_ := Aside0.mk (hbox); have n3_ := Aside0.mk ((by rw [hg]; exact (below_size (by repeat (first | (with_reducible first | exact HB.out | apply below_alloc | apply pw_below_drewN | apply below_drew1 | refine below_set ?_ GE136.out) | exact HB.out))) : w.heap.size ≤ gb140)); have n4_ := Aside0.mk ((by rw [hg]; exact (below_size (by repeat (first | (with_reducible first | exact HB.out | apply below_alloc | apply pw_below_drewN | apply below_drew1 | refine below_set ?_ GE136.out) | exact HB.out))) : w.heap.size ≤ gb140)); have n5_ := Aside0.mk ((by rw [hg]; exact Nat.ne_of_lt (blk_lt (g := gb136) (o := .cells #[.string a2_0, .int .i64 a2_1, .int .i64 a2_2, .int .i64 a2_3, .int .i64 a2_4] 26 (0, 0)) (by (with_reducible repeat (first | refine blk_drewN ?_ _ | refine blk_drew ?_ | refine blk_alloc ?_ _)); exact BK136.out)) : gb136 ≠ gb140)); have n6_ := Aside0.mk ((by rw [hg]; exact Nat.ne_of_gt (blk_lt (g := gb136) (o := .cells #[.string a2_0, .int .i64 a2_1, .int .i64 a2_2, .int .i64 a2_3, .int .i64 a2_4] 26 (0, 0)) (by (with_reducible repeat (first | refine blk_drewN ?_ _ | refine blk_drew ?_ | refine blk_alloc ?_ _)); exact BK136.out)) : gb140 ≠ gb136)); clear BK136; clear HB; have BK136 := n0_; have HB := n1_; have BK140 := n2_; have GW140 := n3_; have GE140 := n4_; have NB136_140 := n5_; have NB140_136 := n6_; clear n0_ n1_ n2_ n3_ n4_ n5_ n6_; clear hb hbox hg; have hnb21 := NB140_136.out; have hnc21 := NB136_140.out; have hcz22_0 : w20.cell? ⟨gb140, 0, none⟩ = some (.int .i64 0) := (blk_cell BK140.out 0).trans rfl; have hcz22_1 : w20.cell? ⟨gb140, 1, none⟩ = some (.int .i64 0) := (blk_cell BK140.out 1).trans rfl; have hfz22_0 := blk_frozen BK140.out 0; have hfz22_1 := blk_frozen BK140.out 1) | ((with_reducible refine gate_callee (f := 25) rfl ?_); refine goesL_ (some 25) rfl rfl Try.func25 (by kernel_rfl) rfl #[.int .i64 ((rd_T34 l0 x19_1).f0), .int .i64 1000, .int .i64 100000] rfl (by (try simp only [List.map_toArray, List.map_cons, List.map_nil]); first | done | rfl | (simp only [List.length_drop, List.length_take]; rfl)) ?_; (with_reducible refine (dynamics_within.calls ((rd_T34 l0 x19_1).f0) 1000 100000 true _ A16.out).mono ?_); rintro e w' ⟨rfl, ⟨nd, rfl⟩⟩; refine ⟨_, rfl, ?_⟩) | (go_at_call 25; (with_reducible refine (dynamics_within.calls ((rd_T34 l0 x19_1).f1) (-40) 40 true _ A18.out).mono ?_); rintro e w' ⟨rfl, ⟨nd, rfl⟩⟩))
                    go_roundg k1
                    case measure => have := HK1.out; omega
                    case rel => exact ⟨(wrap64 (x19_1 + 1)), (by first | rfl | (simp; done) | (simp [*]; done)), H', ⟨by have := HK1.out; omega⟩, ⟨by (with_reducible repeat (first | refine blk_drewN ?_ _ | refine blk_drew ?_ | refine blk_alloc ?_ _)); refine blk_far ?_ NB136_140.out _; (with_reducible repeat (first | refine blk_drewN ?_ _ | refine blk_drew ?_ | refine blk_alloc ?_ _)); refine blk_far ?_ NB136_140.out _; (with_reducible repeat (first | refine blk_drewN ?_ _ | refine blk_drew ?_ | refine blk_alloc ?_ _)); exact BK136.out⟩, ⟨by repeat (first | (with_reducible first | exact HB.out | apply below_alloc | apply pw_below_drewN | apply below_drew1 | refine below_set ?_ GE136.out | refine below_set ?_ GE140.out) | exact HB.out)⟩⟩
                  · replace c19 := Bool.eq_false_iff.mpr c19
                    subst c19
                    have H1 : (some 4) = some r := by rw [if_neg (show ¬ (false = true) by decide)] at H; exact H
                    clear H
                    have H := H1
                    clear H1
                    obtain rfl := Option.some.inj H
                    have p139 : 0 ≤ (x19_1 : Int) := of_decide_eq_true (by first | (with_reducible assumption) | assumption)
                    have q139 : x19_1 < (l0.length : Int) := of_decide_eq_true (by first | (with_reducible assumption) | assumption)
                    obtain ⟨ad139, e139, hx139_0, hx139_1⟩ := at_T34 HR0.out x19_1 p139 q139
                    cases e139
                    replace hx139_0 := (HB.out.cell (World.block_lt_of_cell? w _ hx139_0)).trans hx139_0
                    replace hx139_1 := (HB.out.cell (World.block_lt_of_cell? w _ hx139_1)).trans hx139_1
                    replace p139 := eq_true p139
                    replace q139 := eq_true q139
                    go_wp2_with (first | ((with_reducible refine gate_dst (N := 8) rfl ?_); refine box_event ?hg (N := 8) ?hd (cs := #[.int .i64 0, .int .i64 0]) (t := 34) ?hr ?_; (case hd => rfl); (case hg => rfl); (case hr => first | (go_simp; done) | (go_simp; rfl)); intro gb140 hg w23 hbox hb; have n0_ := Aside0.mk (blk_below (g := gb136) (o := .cells #[.string a2_0, .int .i64 a2_1, .int .i64 a2_2, .int .i64 a2_3, .int .i64 a2_4] 26 (0, 0)) (by (with_reducible repeat (first | refine blk_drewN ?_ _ | refine blk_drew ?_ | refine blk_alloc ?_ _)); exact BK136.out) hb); have n1_ := Aside0.mk (below_step (by repeat (first | (with_reducible first | exact HB.out | apply below_alloc | apply pw_below_drewN | apply below_drew1 | refine below_set ?_ GE136.out) | exact HB.out)) hb); have n2_ := Aside0.mk (hbox); have n3_ := Aside0.mk ((by rw [hg]; exact (below_size (by repeat (first | (with_reducible first | exact HB.out | apply below_alloc | apply pw_below_drewN | apply below_drew1 | refine below_set ?_ GE136.out) | exact HB.out))) : w.heap.size ≤ gb140)); have n4_ := Aside0.mk ((by rw [hg]; exact (below_size (by repeat (first | (with_reducible first | exact HB.out | apply below_alloc | apply pw_below_drewN | apply below_drew1 | refine below_set ?_ GE136.out) | exact HB.out))) : w.heap.size ≤ gb140)); have n5_ := Aside0.mk ((by rw [hg]; exact Nat.ne_of_lt (blk_lt (g := gb136) (o := .cells #[.string a2_0, .int .i64 a2_1, .int .i64 a2_2, .int .i64 a2_3, .int .i64 a2_4] 26 (0, 0)) (by (with_reducible repeat (first | refine blk_drewN ?_ _ | refine blk_drew ?_ | refine blk_alloc ?_ _)); exact BK136.out)) : gb136 ≠ gb140)); have n6_ := Aside0.mk ((by rw [hg]; exact Nat.ne_of_gt (blk_lt (g := gb136) (o := .cells #[.string a2_0, .int .i64 a2_1, .int .i64 a2_2, .int .i64 a2_3, .int .i64 a2_4] 26 (0, 0)) (by (with_reducible repeat (first | refine blk_drewN ?_ _ | refine blk_drew ?_ | refine blk_alloc ?_ _)); exact BK136.out)) : gb140 ≠ gb136)); clear BK136; clear HB; have BK136 := n0_; have HB := n1_; have BK140 := n2_; have GW140 := n3_; have GE140 := n4_; have NB136_140 := n5_; have NB140_136 := n6_; clear n0_ n1_ n2_ n3_ n4_ n5_ n6_; clear hb hbox hg; have hnb24 := NB140_136.out; have hnc24 := NB136_140.out; have hcz25_0 : w23.cell? ⟨gb140, 0, none⟩ = some (.int .i64 0) := (blk_cell BK140.out 0).trans rfl; have hcz25_1 : w23.cell? ⟨gb140, 1, none⟩ = some (.int .i64 0) := (blk_cell BK140.out 1).trans rfl; have hfz25_0 := blk_frozen BK140.out 0; have hfz25_1 := blk_frozen BK140.out 1) | ((with_reducible refine gate_callee (f := 25) rfl ?_); refine goesL_ (some 25) rfl rfl Try.func25 (by kernel_rfl) rfl #[.int .i64 ((rd_T34 l0 x19_1).f0), .int .i64 1000, .int .i64 100000] rfl (by (try simp only [List.map_toArray, List.map_cons, List.map_nil]); first | done | rfl | (simp only [List.length_drop, List.length_take]; rfl)) ?_; (with_reducible refine (dynamics_within.calls ((rd_T34 l0 x19_1).f0) 1000 100000 true _ A16.out).mono ?_); rintro e w' ⟨rfl, ⟨nd, rfl⟩⟩; refine ⟨_, rfl, ?_⟩) | (go_at_call 25; (with_reducible refine (dynamics_within.calls ((rd_T34 l0 x19_1).f1) (-40) 40 false _ A18.out).mono ?_); rintro e w' ⟨rfl, ⟨nd, rfl⟩⟩))
                    go_ret
                    exact ⟨by first | rfl | (simp [errW_none, errW_some] <;> rfl) | (simp [*, errW_none, errW_some] <;> rfl), by repeat (first | (with_reducible first | exact HB.out | apply below_alloc | apply pw_below_drewN | apply below_drew1 | refine below_set ?_ GE136.out | refine below_set ?_ GE140.out) | exact HB.out)⟩
                · replace c17 := Bool.eq_false_iff.mpr c17
                  subst c17
                  have H1 : (some 4) = some r := by rw [if_neg (show ¬ (false = true) by decide)] at H; exact H
                  clear H
                  have H := H1
                  clear H1
                  obtain rfl := Option.some.inj H
                  have p139 : 0 ≤ (x19_1 : Int) := of_decide_eq_true (by first | (with_reducible assumption) | assumption)
                  have q139 : x19_1 < (l0.length : Int) := of_decide_eq_true (by first | (with_reducible assumption) | assumption)
                  obtain ⟨ad139, e139, hx139_0, hx139_1⟩ := at_T34 HR0.out x19_1 p139 q139
                  cases e139
                  replace hx139_0 := (HB.out.cell (World.block_lt_of_cell? w _ hx139_0)).trans hx139_0
                  replace hx139_1 := (HB.out.cell (World.block_lt_of_cell? w _ hx139_1)).trans hx139_1
                  replace p139 := eq_true p139
                  replace q139 := eq_true q139
                  go_wp2_with (first | ((with_reducible refine gate_dst (N := 8) rfl ?_); refine box_event ?hg (N := 8) ?hd (cs := #[.int .i64 0, .int .i64 0]) (t := 34) ?hr ?_; (case hd => rfl); (case hg => rfl); (case hr => first | (go_simp; done) | (go_simp; rfl)); intro gb140 hg w26 hbox hb; have n0_ := Aside0.mk (blk_below (g := gb136) (o := .cells #[.string a2_0, .int .i64 a2_1, .int .i64 a2_2, .int .i64 a2_3, .int .i64 a2_4] 26 (0, 0)) (by (with_reducible repeat (first | refine blk_drewN ?_ _ | refine blk_drew ?_ | refine blk_alloc ?_ _)); exact BK136.out) hb); have n1_ := Aside0.mk (below_step (by repeat (first | (with_reducible first | exact HB.out | apply below_alloc | apply pw_below_drewN | apply below_drew1 | refine below_set ?_ GE136.out) | exact HB.out)) hb); have n2_ := Aside0.mk (hbox); have n3_ := Aside0.mk ((by rw [hg]; exact (below_size (by repeat (first | (with_reducible first | exact HB.out | apply below_alloc | apply pw_below_drewN | apply below_drew1 | refine below_set ?_ GE136.out) | exact HB.out))) : w.heap.size ≤ gb140)); have n4_ := Aside0.mk ((by rw [hg]; exact (below_size (by repeat (first | (with_reducible first | exact HB.out | apply below_alloc | apply pw_below_drewN | apply below_drew1 | refine below_set ?_ GE136.out) | exact HB.out))) : w.heap.size ≤ gb140)); have n5_ := Aside0.mk ((by rw [hg]; exact Nat.ne_of_lt (blk_lt (g := gb136) (o := .cells #[.string a2_0, .int .i64 a2_1, .int .i64 a2_2, .int .i64 a2_3, .int .i64 a2_4] 26 (0, 0)) (by (with_reducible repeat (first | refine blk_drewN ?_ _ | refine blk_drew ?_ | refine blk_alloc ?_ _)); exact BK136.out)) : gb136 ≠ gb140)); have n6_ := Aside0.mk ((by rw [hg]; exact Nat.ne_of_gt (blk_lt (g := gb136) (o := .cells #[.string a2_0, .int .i64 a2_1, .int .i64 a2_2, .int .i64 a2_3, .int .i64 a2_4] 26 (0, 0)) (by (with_reducible repeat (first | refine blk_drewN ?_ _ | refine blk_drew ?_ | refine blk_alloc ?_ _)); exact BK136.out)) : gb140 ≠ gb136)); clear BK136; clear HB; have BK136 := n0_; have HB := n1_; have BK140 := n2_; have GW140 := n3_; have GE140 := n4_; have NB136_140 := n5_; have NB140_136 := n6_; clear n0_ n1_ n2_ n3_ n4_ n5_ n6_; clear hb hbox hg; have hnb27 := NB140_136.out; have hnc27 := NB136_140.out; have hcz28_0 : w26.cell? ⟨gb140, 0, none⟩ = some (.int .i64 0) := (blk_cell BK140.out 0).trans rfl; have hcz28_1 : w26.cell? ⟨gb140, 1, none⟩ = some (.int .i64 0) := (blk_cell BK140.out 1).trans rfl; have hfz28_0 := blk_frozen BK140.out 0; have hfz28_1 := blk_frozen BK140.out 1) | ((with_reducible refine gate_callee (f := 25) rfl ?_); refine goesL_ (some 25) rfl rfl Try.func25 (by kernel_rfl) rfl #[.int .i64 ((rd_T34 l0 x19_1).f0), .int .i64 1000, .int .i64 100000] rfl (by (try simp only [List.map_toArray, List.map_cons, List.map_nil]); first | done | rfl | (simp only [List.length_drop, List.length_take]; rfl)) ?_; (with_reducible refine (dynamics_within.calls ((rd_T34 l0 x19_1).f0) 1000 100000 false _ A16.out).mono ?_); rintro e w' ⟨rfl, ⟨nd, rfl⟩⟩; refine ⟨_, rfl, ?_⟩))
                  go_ret
                  exact ⟨by first | rfl | (simp [errW_none, errW_some] <;> rfl) | (simp [*, errW_none, errW_some] <;> rfl), by repeat (first | (with_reducible first | exact HB.out | apply below_alloc | apply pw_below_drewN | apply below_drew1 | refine below_set ?_ GE136.out | refine below_set ?_ GE140.out) | exact HB.out)⟩
              · rw [if_neg c15] at H
                exact absurd H (by simp)
            · rw [if_neg c14] at H
              exact absurd H (by simp)
          · rw [if_neg c13] at H
            have c13b0 : decide (x19_1 < (l0.length : Int)) = false := decide_eq_false c13
            clear c13
            replace H := Option.bind_eq_some_iff.mp H
            obtain ⟨t138, A290, H⟩ := H
            replace H : (if t138 = true then (some 0) else (some 4)) = some r := H
            have A29 := Aside0.mk A290
            clear A290
            by_cases c30 : t138 = true
            · subst c30
              have H1 : (some 0) = some r := by rw [if_pos rfl] at H; exact H
              clear H
              have H := H1
              clear H1
              obtain rfl := Option.some.inj H
              go_wp2_with (first | ((with_reducible refine gate_callee (f := 25) rfl ?_); refine goesL_ (some 38) rfl rfl Try.func25 (by kernel_rfl) rfl #[.int .i64 a1, .int .i64 0, .int .i64 (wrap64 ((l0.length : Int) - 2))] rfl (by (try simp only [List.map_toArray, List.map_cons, List.map_nil]); first | done | rfl | (simp only [List.length_drop, List.length_take]; rfl)) ?_; (with_reducible refine (dynamics_within.calls a1 0 (wrap64 ((l0.length : Int) - 2)) true _ A29.out).mono ?_); rintro e w' ⟨rfl, ⟨nd, rfl⟩⟩; refine ⟨_, rfl, ?_⟩))
              go_ret
              exact ⟨by first | rfl | (simp [errW_none, errW_some] <;> rfl) | (simp [*, errW_none, errW_some] <;> rfl), by repeat (first | (with_reducible first | exact HB.out | apply below_alloc | apply pw_below_drewN | apply below_drew1 | refine below_set ?_ GE136.out) | exact HB.out)⟩
            · replace c30 := Bool.eq_false_iff.mpr c30
              subst c30
              have H1 : (some 4) = some r := by rw [if_neg (show ¬ (false = true) by decide)] at H; exact H
              clear H
              have H := H1
              clear H1
              obtain rfl := Option.some.inj H
              go_wp2_with (first | ((with_reducible refine gate_callee (f := 25) rfl ?_); refine goesL_ (some 38) rfl rfl Try.func25 (by kernel_rfl) rfl #[.int .i64 a1, .int .i64 0, .int .i64 (wrap64 ((l0.length : Int) - 2))] rfl (by (try simp only [List.map_toArray, List.map_cons, List.map_nil]); first | done | rfl | (simp only [List.length_drop, List.length_take]; rfl)) ?_; (with_reducible refine (dynamics_within.calls a1 0 (wrap64 ((l0.length : Int) - 2)) false _ A29.out).mono ?_); rintro e w' ⟨rfl, ⟨nd, rfl⟩⟩; refine ⟨_, rfl, ?_⟩))
              go_ret
              exact ⟨by first | rfl | (simp [errW_none, errW_some] <;> rfl) | (simp [*, errW_none, errW_some] <;> rfl), by repeat (first | (with_reducible first | exact HB.out | apply below_alloc | apply pw_below_drewN | apply below_drew1 | refine below_set ?_ GE136.out) | exact HB.out)⟩
  · replace c5 := Bool.eq_false_iff.mpr c5
    subst c5
    have H1 : (some 1) = some r := by rw [if_neg (show ¬ (false = true) by decide)] at H; exact H
    clear H
    have H := H1
    clear H1
    obtain rfl := Option.some.inj H
    go_enter Try.func26, Try.ntmps26
    go_wp2_with (first | ((with_reducible refine gate_dst (N := 5) rfl ?_); refine box_event ?hg (N := 5) ?hd (cs := #[.string a2_0, .int .i64 a2_1, .int .i64 a2_2, .int .i64 a2_3, .int .i64 a2_4]) (t := 26) ?hr ?_; (case hd => rfl); (case hg => rfl); (case hr => first | (go_simp; done) | (go_simp; rfl)); intro gb136 hg w31 hbox hb; have n0_ := Aside0.mk (below_step (by repeat (first | (with_reducible first | exact HB.out | apply below_alloc | apply pw_below_drewN | apply below_drew1) | exact HB.out)) hb); have n1_ := Aside0.mk (hbox); have n2_ := Aside0.mk ((by rw [hg]; exact (below_size (by repeat (first | (with_reducible first | exact HB.out | apply below_alloc | apply pw_below_drewN | apply below_drew1) | exact HB.out))) : w.heap.size ≤ gb136)); have n3_ := Aside0.mk ((by rw [hg]; exact (below_size (by repeat (first | (with_reducible first | exact HB.out | apply below_alloc | apply pw_below_drewN | apply below_drew1) | exact HB.out))) : w.heap.size ≤ gb136)); clear HB; have HB := n0_; have BK136 := n1_; have GW136 := n2_; have GE136 := n3_; clear n0_ n1_ n2_ n3_; clear hb hbox hg; have hcz32_0 : w31.cell? ⟨gb136, 0, none⟩ = some (.string a2_0) := (blk_cell BK136.out 0).trans rfl; have hcz32_1 : w31.cell? ⟨gb136, 1, none⟩ = some (.int .i64 a2_1) := (blk_cell BK136.out 1).trans rfl; have hcz32_2 : w31.cell? ⟨gb136, 2, none⟩ = some (.int .i64 a2_2) := (blk_cell BK136.out 2).trans rfl; have hcz32_3 : w31.cell? ⟨gb136, 3, none⟩ = some (.int .i64 a2_3) := (blk_cell BK136.out 3).trans rfl; have hcz32_4 : w31.cell? ⟨gb136, 4, none⟩ = some (.int .i64 a2_4) := (blk_cell BK136.out 4).trans rfl; have hfz32_0 := blk_frozen BK136.out 0; have hfz32_1 := blk_frozen BK136.out 1; have hfz32_2 := blk_frozen BK136.out 2; have hfz32_3 := blk_frozen BK136.out 3; have hfz32_4 := blk_frozen BK136.out 4) | ((with_reducible refine gate_callee (f := 15) rfl ?_); refine goesL_ (some 11) rfl rfl Try.func15 (by kernel_rfl) rfl #[.agg #[.string a2_0, .int .i64 a2_1, .int .i64 a2_2, .int .i64 a2_3, .int .i64 a2_4]] rfl (by (try simp only [List.map_toArray, List.map_cons, List.map_nil]); first | done | rfl | (simp only [List.length_drop, List.length_take]; rfl)) ?_; (with_reducible refine (dynamics_Check.calls a2_0 a2_1 a2_2 a2_3 a2_4 false _ A4.out).mono ?_); rintro e w33 ⟨rfl, hb⟩; refine ⟨_, rfl, ?_⟩; have n0_ := Aside0.mk (blk_below (g := gb136) (o := .cells #[.string a2_0, .int .i64 a2_1, .int .i64 a2_2, .int .i64 a2_3, .int .i64 a2_4] 26 (0, 0)) (by (with_reducible repeat (first | refine blk_drewN ?_ _ | refine blk_drew ?_ | refine blk_alloc ?_ _)); exact BK136.out) hb); have n1_ := Aside0.mk (below_step (by repeat (first | (with_reducible first | exact HB.out | apply below_alloc | apply pw_below_drewN | apply below_drew1 | refine below_set ?_ GE136.out) | exact HB.out)) hb); clear BK136; clear HB; have BK136 := n0_; have HB := n1_; clear n0_ n1_; (try clear hb); (try clear hb2); (try clear hk); (try clear hi)))
    go_ret
    exact ⟨by first | rfl | (simp [errW_none, errW_some] <;> rfl) | (simp [*, errW_none, errW_some] <;> rfl), by repeat (first | (with_reducible first | exact HB.out | apply below_alloc | apply pw_below_drewN | apply below_drew1 | refine below_set ?_ GE136.out) | exact HB.out)⟩

/-! ### dynamics_limit: function 27 -/
def dynamics_limit.l0 : Nat → List (S34) → Int → Int → Int → Option (Int)
  | 0, _, _, _, _ => none
  | k + 1, x0, x1, x7, x8 => if x8 ≤ x1 then (if 0 ≤ x8 then (if x8 < (x0.length : Int) then (dynamics_limit.l0 k x0 x1 (mn x7 ((rd_T34 x0 x8).f0)) (wrap64 (x8 + 1))) else (none)) else (none)) else (some x7)
def dynamics_limit.f (k : Nat) (l0 : List (S34)) (a1 : Int) (a2_0 : ByteArray) (a2_1 : Int) (a2_2 : Int) (a2_3 : Int) (a2_4 : Int) : Option (Int) := dynamics_limit.l0 k l0 a1 a2_2 (mx 0 (wrap64 (a1 - a2_1)))
theorem dynamics_limit.mono_l : ∀ k, (∀ y0 y1 y2 y3, LeO (dynamics_limit.l0 k y0 y1 y2 y3) (dynamics_limit.l0 (k + 1) y0 y1 y2 y3))
  | 0 => fun _ _ _ _ r h => by simp [dynamics_limit.l0] at h
  | k + 1 => by
    have ih0 := dynamics_limit.mono_l k
    · intro y0 y1 y2 y3
      unfold dynamics_limit.l0
      repeat' first
      | (with_reducible exact ih0 _ _ _ _)
      | (with_reducible exact LeO.refl _)
      | (with_reducible exact LeO.none _)
      | (with_reducible refine LeO.ite ?_ ?_)
      | (with_reducible refine LeO.bind ?_ (fun _ => ?_))
      | exact ih0 _ _ _ _
      | exact LeO.none _
      | refine LeO.ite ?_ ?_
      | refine LeO.bind ?_ (fun _ => ?_)
theorem dynamics_limit.mono : ∀ a0 a1 a2 a3 a4 a5 a6 k, LeO (dynamics_limit.f k a0 a1 a2 a3 a4 a5 a6) (dynamics_limit.f (k + 1) a0 a1 a2 a3 a4 a5 a6) := by
  intro a0 a1 a2 a3 a4 a5 a6 k
  have ih0 := dynamics_limit.mono_l k
  unfold dynamics_limit.f
  repeat' first
      | (with_reducible exact ih0 _ _ _ _)
      | (with_reducible exact LeO.refl _)
      | (with_reducible exact LeO.none _)
      | (with_reducible refine LeO.ite ?_ ?_)
      | (with_reducible refine LeO.bind ?_ (fun _ => ?_))
      | exact ih0 _ _ _ _
      | exact LeO.none _
      | refine LeO.ite ?_ ?_
      | refine LeO.bind ?_ (fun _ => ?_)
set_option maxHeartbeats 8000000 in
set_option maxRecDepth 100000 in
theorem dynamics_limit.calls (k : Nat) (A0 : Option Addr) (c0 : Nat) (l0 : List (S34)) (a1 : Int) (a2_0 : ByteArray) (a2_1 : Int) (a2_2 : Int) (a2_3 : Int) (a2_4 : Int) (r : Int) (w : World) (hr0 : Kd.C k34 w A0 l0.length l0) (hc0 : l0.length ≤ c0) (h : dynamics_limit.f k l0 a1 a2_0 a2_1 a2_2 a2_3 a2_4 = some r) :
    Calls Try.prog 27 #[.slice A0 l0.length c0, .int .i64 a1, .agg #[.string a2_0, .int .i64 a2_1, .int .i64 a2_2, .int .i64 a2_3, .int .i64 a2_4]] w fun e w' => e = .returned (.int .i64 r) ∧ Below w.heap.size w w' := by
  have hu26 := Try.underlying26
  have HR0 := Aside0.mk hr0
  have HC0 := Aside0.mk hc0
  clear hr0 hc0
  have HB := Aside0.mk (Below.refl w.heap.size w)
  have H : (dynamics_limit.l0 k l0 a1 a2_2 (mx 0 (wrap64 (a1 - a2_1)))) = some r := h
  clear h
  obtain ⟨ji4, hji4⟩ : ∃ j_ : Int, (mx 0 (wrap64 (a1 - a2_1))) = j_ := ⟨_, rfl⟩
  replace H : (dynamics_limit.l0 k l0 a1 a2_2 ji4) = some r := by first | (rw [hji4] at H; exact H) | (simp only [hji4] at H ⊢; exact H)
  (try (have hji4l : 0 ≤ ji4 := by (rw [← hji4]; unfold mx; (repeat' split) <;> omega)))
  (try (have hji4m : 0 ≤ ji4 := by omega))
  have hji4_ : (if 0 < (wrap64 (a1 - a2_1)) then (wrap64 (a1 - a2_1)) else 0) = ji4 := hji4
  have H' := Aside0.mk H
  clear H
  go_enter Try.func27, Try.ntmps27
  go_wp2_with (first | ((with_reducible refine gate_dst (N := 5) rfl ?_); refine box_event ?hg (N := 5) ?hd (cs := #[.string a2_0, .int .i64 a2_1, .int .i64 a2_2, .int .i64 a2_3, .int .i64 a2_4]) (t := 26) ?hr ?_; (case hd => rfl); (case hg => rfl); (case hr => first | (go_simp; done) | (go_simp; rfl)); intro gb143 hg w5 hbox hb; have n0_ := Aside0.mk (below_step (by repeat (first | (with_reducible first | exact HB.out | apply below_alloc | apply pw_below_drewN | apply below_drew1) | exact HB.out)) hb); have n1_ := Aside0.mk (hbox); have n2_ := Aside0.mk ((by rw [hg]; exact (below_size (by repeat (first | (with_reducible first | exact HB.out | apply below_alloc | apply pw_below_drewN | apply below_drew1) | exact HB.out))) : w.heap.size ≤ gb143)); have n3_ := Aside0.mk ((by rw [hg]; exact (below_size (by repeat (first | (with_reducible first | exact HB.out | apply below_alloc | apply pw_below_drewN | apply below_drew1) | exact HB.out))) : w.heap.size ≤ gb143)); clear HB; have HB := n0_; have BK143 := n1_; have GW143 := n2_; have GE143 := n3_; clear n0_ n1_ n2_ n3_; clear hb hbox hg; have hcz6_0 : w5.cell? ⟨gb143, 0, none⟩ = some (.string a2_0) := (blk_cell BK143.out 0).trans rfl; have hcz6_1 : w5.cell? ⟨gb143, 1, none⟩ = some (.int .i64 a2_1) := (blk_cell BK143.out 1).trans rfl; have hcz6_2 : w5.cell? ⟨gb143, 2, none⟩ = some (.int .i64 a2_2) := (blk_cell BK143.out 2).trans rfl; have hcz6_3 : w5.cell? ⟨gb143, 3, none⟩ = some (.int .i64 a2_3) := (blk_cell BK143.out 3).trans rfl; have hcz6_4 : w5.cell? ⟨gb143, 4, none⟩ = some (.int .i64 a2_4) := (blk_cell BK143.out 4).trans rfl; have hfz6_0 := blk_frozen BK143.out 0; have hfz6_1 := blk_frozen BK143.out 1; have hfz6_2 := blk_frozen BK143.out 2; have hfz6_3 := blk_frozen BK143.out 3; have hfz6_4 := blk_frozen BK143.out 4))
  go_loopg [7, 8] k (fun kq v7 v8 w' => ∃ (x7_1 : Int) (x8_1 : Int), v7 = .int .i64 x7_1 ∧ v8 = .int .i64 x8_1 ∧ Aside0 (dynamics_limit.l0 kq l0 a1 x7_1 x8_1 = some r) ∧ Aside0 (kq ≤ k) ∧ Aside0 (w'.heap[gb143]? = some (.cells #[.string a2_0, .int .i64 a2_1, .int .i64 a2_2, .int .i64 a2_3, .int .i64 a2_4] 26 (0, 0))) ∧ Aside0 (Below w.heap.size w w'))
  case atStart => exact ⟨(a2_2), (ji4), (by first | rfl | (simp; done) | (simp [*]; done)), (by first | rfl | (simp; done) | (simp only [← hji4] <;> (first | rfl | simp)) | (simp [*]; done)), H', ⟨Nat.le_refl _⟩, ⟨by (with_reducible repeat (first | refine blk_drewN ?_ _ | refine blk_drew ?_ | refine blk_alloc ?_ _)); exact BK143.out⟩, ⟨by repeat (first | (with_reducible first | exact HB.out | apply below_alloc | apply pw_below_drewN | apply below_drew1 | refine below_set ?_ GE143.out) | exact HB.out)⟩⟩
  case round =>
    clear H'
    try clear c2
    try clear p2
    try clear p6
    try clear hcz6_0
    try clear hcz6_1
    try clear hcz6_2
    try clear hcz6_3
    try clear hcz6_4
    try clear hfz6_0
    try clear hfz6_1
    try clear hfz6_2
    try clear hfz6_3
    try clear hfz6_4
    obtain ⟨x7_1, x8_1, rfl, rfl, HA, HK1, BK143, HB⟩ := hrel
    cases gk with
    | zero => exact absurd HA.out (by simp [dynamics_limit.l0])
    | succ k1 =>
      have H := HA.out
      clear HA
      simp only [dynamics_limit.l0] at H
      by_cases c7 : x8_1 ≤ a1
      · rw [if_pos c7] at H
        have c7b0 : decide (x8_1 ≤ a1) = true := decide_eq_true c7
        clear c7
        by_cases c8 : 0 ≤ x8_1
        · rw [if_pos c8] at H
          have c8b0 : decide (0 ≤ x8_1) = true := decide_eq_true c8
          clear c8
          by_cases c9 : x8_1 < (l0.length : Int)
          · rw [if_pos c9] at H
            have c9b0 : decide (x8_1 < (l0.length : Int)) = true := decide_eq_true c9
            clear c9
            obtain ⟨ji10, hji10⟩ : ∃ j_ : Int, (mn x7_1 ((rd_T34 l0 x8_1).f0)) = j_ := ⟨_, rfl⟩
            replace H : (dynamics_limit.l0 k1 l0 a1 ji10 (wrap64 (x8_1 + 1))) = some r := by first | (rw [hji10] at H; exact H) | (simp only [hji10] at H ⊢; exact H)
            have hji10_ : (if ((rd_T34 l0 x8_1).f0) < x7_1 then ((rd_T34 l0 x8_1).f0) else x7_1) = ji10 := hji10
            have H' := Aside0.mk H
            clear H
            have p144 : 0 ≤ (x8_1 : Int) := of_decide_eq_true (by first | (with_reducible assumption) | assumption)
            have q144 : x8_1 < (l0.length : Int) := of_decide_eq_true (by first | (with_reducible assumption) | assumption)
            obtain ⟨ad144, e144, hx144_0, hx144_1⟩ := at_T34 HR0.out x8_1 p144 q144
            cases e144
            replace hx144_0 := (HB.out.cell (World.block_lt_of_cell? w _ hx144_0)).trans hx144_0
            replace hx144_1 := (HB.out.cell (World.block_lt_of_cell? w _ hx144_1)).trans hx144_1
            replace p144 := eq_true p144
            replace q144 := eq_true q144
            go_wp2
            go_roundg k1
            case measure => have := HK1.out; omega
            case rel => exact ⟨(ji10), (wrap64 (x8_1 + 1)), (by first | rfl | (simp; done) | (simp only [← hji10] <;> (first | rfl | simp)) | (simp [*]; done)), (by first | rfl | (simp; done) | (simp [*]; done)), H', ⟨by have := HK1.out; omega⟩, ⟨by (with_reducible repeat (first | refine blk_drewN ?_ _ | refine blk_drew ?_ | refine blk_alloc ?_ _)); exact BK143.out⟩, ⟨by repeat (first | (with_reducible first | exact HB.out | apply below_alloc | apply pw_below_drewN | apply below_drew1 | refine below_set ?_ GE143.out) | exact HB.out)⟩⟩
          · rw [if_neg c9] at H
            exact absurd H (by simp)
        · rw [if_neg c8] at H
          exact absurd H (by simp)
      · rw [if_neg c7] at H
        have c7b0 : decide (x8_1 ≤ a1) = false := decide_eq_false c7
        clear c7
        obtain rfl := Option.some.inj H
        go_wp2
        go_ret
        exact ⟨by first | rfl | (simp [errW_none, errW_some] <;> rfl) | (simp only [← hji4]; first | rfl | (simp [errW_none, errW_some] <;> rfl)) | (simp [*, errW_none, errW_some] <;> rfl), by repeat (first | (with_reducible first | exact HB.out | apply below_alloc | apply pw_below_drewN | apply below_drew1 | refine below_set ?_ GE143.out) | exact HB.out)⟩

end Go.Proofs.Ytfnpoalffpnllaa.XDynamicsGenerated
