-- This session's own text, written by wip/tools/xall.py after the form of the kit's print.
import Derived.Test.YtpioelilfhkfdaaXAllx0
import Derived.Test.YtpioelilfhkfdaaXAllx4
namespace Go.Proofs.Ytpioelilfhkfdaa.XAll
open Go.RowKit Go.Proofs.YtpioelilfhkfdaaW.PrintWords Go.Proofs.YtpioelilfhkfdaaW.PrintLast Go.Proofs.YtpioelilfhkfdaaW.PrintMore
attribute [local go_sem] max2_int min2_int max_two min_two max_three min_three max_four min_four   -- for this text's walks alone
set_option linter.unusedVariables false
set_option linter.unusedSimpArgs false

/-! ### railplanref17_newSearch: function 63 -/
def NewSt (w W : World) (g F T : Nat) (P : Int) (A1 : Option Addr) (c1 n : Nat) (A2 : Option Addr) (c2 m : Nat) (budget : Int) (all : Bool) (fs : List Bool) : Prop :=
 W.heap[g]? = some (.cells #[.int .i64 P, .slice A1 n c1, .slice A2 m c2, .slice (some ⟨F, 0, none⟩) n n, .int .i64 budget, .int .i64 0, .bool false, .bool all, .bool false, .int .i64 0, .slice none 0 0, .slice (some ⟨T, 0, none⟩) n n] 79 (0, 0)) ∧
  W.heap[F]? = some (.cells (fs.map Value.bool).toArray 4 (0, 0)) ∧ W.heap[T]? = some (.cells ((List.replicate n (0 : Int)).map (Value.int .i64)).toArray 3 (0, 0)) ∧
  (w.heap.size ≤ g ∧ w.heap.size ≤ F ∧ w.heap.size ≤ T) ∧ Below w.heap.size w W
theorem NewSt.below {w W W1 : World} {g F T : Nat} {P : Int} {A1 : Option Addr} {c1 n : Nat} {A2 : Option Addr} {c2 m : Nat} {budget : Int} {all : Bool} {fs : List Bool} (h : NewSt w W g F T P A1 c1 n A2 c2 m budget all fs) (hb : Below W.heap.size W W1) : NewSt w W1 g F T P A1 c1 n A2 c2 m budget all fs := by
 obtain ⟨h1, h2, h3, h4, h5⟩ := h
 exact ⟨qaa h1 hb, qaa h2 hb, qaa h3 hb, h4, qt h5 hb⟩
theorem NewSt.setF {w W : World} {g F T : Nat} {P : Int} {A1 : Option Addr} {c1 n : Nat} {A2 : Option Addr} {c2 m : Nat} {budget : Int} {all : Bool} {fs : List Bool} (h : NewSt w W g F T P A1 c1 n A2 c2 m budget all fs) (i : Nat) (b : Bool) : NewSt w (W.setCell ⟨F, i, none⟩ (.bool b)) g F T P A1 c1 n A2 c2 m budget all (fs.set i b) := by
 obtain ⟨h1, h2, h3, h4, h5⟩ := h
 refine ⟨qam h1 (p := ⟨F, i, none⟩) (blk_ne h1 h2 (by decide)) _, ?_, qam h3 (p := ⟨F, i, none⟩) (blk_ne h3 h2 (by decide)) _, h4, qn h5 h4.2.1⟩
 have := blk_set h2 i (.bool b)
 simpa [List.map_set] using this
/-- Is an event the first of its component, as far as the first j tell? -/
def innerF (comp : List Int) (i : Nat) : Nat → Bool
 | 0 => true
 | j + 1 => if rd comp (j : Int) = rd comp (i : Int) then false else innerF comp i j
/-- The first events, the first i told. -/
def newF (comp : List Int) (n : Nat) : Nat → List Bool
 | 0 => List.replicate n false
 | i + 1 => (newF comp n i).set i (innerF comp i i)
theorem newF_len (comp : List Int) (n : Nat) : ∀ i, (newF comp n i).length = n
 | 0 => List.length_replicate
 | i + 1 => by show ((newF comp n i).set i _).length = n; rw [List.length_set]; exact newF_len comp n i
theorem three_blocks (w : World) (o1 o2 o3 : Obj) : (((w.alloc o1).alloc o2).alloc o3).heap[w.heap.size]? = some o1 ∧ (((w.alloc o1).alloc o2).alloc o3).heap[w.heap.size + 1]? = some o2 ∧ (((w.alloc o1).alloc o2).alloc o3).heap[w.heap.size + 1 + 1]? = some o3 := by
 have s : ∀ (W : World) (o : Obj), (W.alloc o).heap.size = W.heap.size + 1 := fun W o => World.size_alloc W o
 have h1 := blk_new w o1
 have h2 := blk_new (w.alloc o1) o2
 have h3 := blk_new ((w.alloc o1).alloc o2) o3
 simp only [s] at h2 h3
 exact ⟨qk (qk h1 _) _, qk h2 _, h3⟩
set_option maxHeartbeats 4000000 in
set_option maxRecDepth 100000 in
theorem new_calls (P : Int) (A1 : Option Addr) (c1 : Nat) (l1 : List S60) (A2 : Option Addr) (c2 : Nat) (l2 : List S62) (budget : Int) (all : Bool) (comp : List Int) (w : World) (hn : l1.length ≤ 48) (hcl : comp.length = l1.length)
  (hcomp : ∀ W, Below w.heap.size w W → Calls Try.prog 45 #[.agg #[.int .i64 P, .slice A1 l1.length c1, .slice A2 l2.length c2]] W fun e w' => ∃ v0 : Value, e = .returned v0 ∧ Kd.R (Kd.int .i64) 3 w' W.heap.size (fun _ => True) v0 comp ∧ Below W.heap.size W w') :
  Calls Try.prog 63 #[.agg #[.int .i64 P, .slice A1 l1.length c1, .slice A2 l2.length c2], .int .i64 budget, .bool all] w fun e w' => ∃ g F T : Nat, e = .returned (.pointer (some ⟨g, 0, none⟩)) ∧ NewSt w w' g F T P A1 c1 l1.length A2 c2 l2.length budget all (newF comp l1.length l1.length) := by
 have hm1 := fun W => run_make_row' (P := Try.prog) 68 4 (.bool false) 1 Try.underlying68 (by kernel_rfl) rfl .i64 .i64 l1.length (by omega) (by omega) W
 have hm3 := fun W => run_make_row' (P := Try.prog) 22 3 (.int .i64 0) 8 Try.underlying22 (by kernel_rfl) rfl .i64 .i64 l1.length (by omega) (by omega) W
 have hb0 := qc (qaj w.heap.size w) (.cells #[.int .i64 P, .slice A1 l1.length c1, .slice A2 l2.length c2] 26)
 have hnb := blk_new w (.cells #[.int .i64 P, .slice A1 l1.length c1, .slice A2 l2.length c2] 26)
 have HB0 := qo hb0
 have HNB := qo hnb
 have HCO := qo hcomp
 have HCL := qo hcl
 clear hcomp hcl hb0 hnb
 go_enter Try.func63, Try.ntmps63
 go_wp2_with (go_at_call 45; refine (HCO.out _ HB0.out).mono ?_; rintro e w1 ⟨v0, rfl, ho, hd⟩; obtain ⟨Ac, cc, ev⟩ := qak ho; rw [HCL.out] at ev; subst ev; have hq1 := qaa HNB.out hd; obtain ⟨k0, k1, k2⟩ : w1.cell? ⟨w.heap.size, 0, none⟩ = some (.int .i64 P) ∧ w1.cell? ⟨w.heap.size, 1, none⟩ = some (.slice A1 l1.length c1) ∧ w1.cell? ⟨w.heap.size, 2, none⟩ = some (.slice A2 l2.length c2) := ⟨(qe hq1 0).trans rfl, (qe hq1 1).trans rfl, (qe hq1 2).trans rfl⟩; have HO := qo (qag ho (qu HB0.out)); have HD := qo (qt HB0.out hd); clear ho hd hq1)
 go_cut [8] (fun v8 wc => ∃ g F T : Nat, v8 = .pointer (some ⟨g, 0, none⟩) ∧ Aside0 (NewSt w wc g F T P A1 c1 l1.length A2 c2 l2.length budget all (List.replicate l1.length false)) ∧ Aside0 (Kd.R (Kd.int .i64) 3 wc w.heap.size (fun k => k ≠ F) (.slice Ac l1.length cc) comp))
 case first =>
  have hsz := (qu HD.out : w.heap.size ≤ w1.heap.size)
  have K0 := qo k0
  have K1 := qo k1
  have K2 := qo k2
  have z0 := World.new_ne w1 ⟨w.heap.size, 0, none⟩ k0
  have z1 := World.new_ne w1 ⟨w.heap.size, 1, none⟩ k1
  have z2 := World.new_ne w1 ⟨w.heap.size, 2, none⟩ k2
  go_region_held3 (fun w' => w'.cell? ⟨w.heap.size, 0, none⟩ = some (.int .i64 P) ∧ w'.cell? ⟨w.heap.size, 1, none⟩ = some (.slice A1 l1.length c1) ∧ w'.cell? ⟨w.heap.size, 2, none⟩ = some (.slice A2 l2.length c2)) ((first | exact ⟨pw_cell_below (by repeat (first | exact qaj _ _ | apply qc | apply qd)) K0.out, pw_cell_below (by repeat (first | exact qaj _ _ | apply qc | apply qd)) K1.out, pw_cell_below (by repeat (first | exact qaj _ _ | apply qc | apply qd)) K2.out⟩ | go_keep)) (fail)
  all_goals (go_wp2_with fail; go_meet)
  all_goals (
   obtain ⟨b1, b2, b3⟩ := three_blocks w1 _ _ _
   refine ⟨_, _, _, rfl, ⟨⟨qm b3, ?_, ?_, ⟨by omega, by omega, by omega⟩, by repeat (first | exact HD.out | apply qc | apply qd | apply qb)⟩⟩, ⟨qae (qy (Kd.R_bound HO.out) (fun k hk => by have := hk.2.2.1; first | (show k ≠ w1.heap.size; omega) | (show k ≠ w1.heap.size + 1; omega))) (by repeat (first | exact qaj _ _ | apply qc | apply qd | apply qb))⟩⟩
   ·rw [← bools_made]; first | exact qm b1 | exact qm b2
   ·rw [← ints_made]; first | exact qm b1 | exact qm b2)
 case rest =>
  obtain ⟨g, F, T, rfl, HP, HR⟩ := hcut
  clear hm1 hm3 HO HD k0 k1 k2 HCO
  go_wp2_with fail
  go_loopg [28] l1.length (fun kq v28 w' => ∃ i : Nat, v28 = .int .i64 (i : Int) ∧ Aside0 (i + kq = l1.length) ∧ Aside0 (NewSt w w' g F T P A1 c1 l1.length A2 c2 l2.length budget all (newF comp l1.length i)) ∧ Aside0 (Kd.R (Kd.int .i64) 3 w' w.heap.size (fun k => k ≠ F) (.slice Ac l1.length cc) comp))
  case atStart => exact ⟨0, rfl, ⟨by omega⟩, HP, HR⟩
  case round =>
   clear HP HR
   obtain ⟨i, rfl, HK, HP, HR⟩ := hrel
   by_cases hlt : i < l1.length
   ·cases gk with
    | zero => exact absurd HK.out (by omega)
    | succ gO =>
     have hg3 : wr.cell? ⟨g, 3, none⟩ = some (.slice (some ⟨F, 0, none⟩) l1.length l1.length) := (qe HP.out.1 3).trans rfl
     have hf1 := bools_cell HP.out.2.1 i (by rw [newF_len]; exact hlt)
     have hf2 : wr.frozen? ⟨F, i, none⟩ = false := qf HP.out.2.1 i
     go_wp2_with fail
     have HP0 := qo (HP.out.setF i true)
     have HR0 := qo (qz (p := ⟨F, i, none⟩) HR.out (fun k hk => hk) (.bool true))
     have HKO := HK
     clear HP HR hg3 hf1 hf2 HK
     go_loopg [10] i (fun kq v10 w' => ∃ j : Nat, v10 = .int .i64 (j : Int) ∧ Aside0 (j + kq = i) ∧ Aside0 (NewSt w w' g F T P A1 c1 l1.length A2 c2 l2.length budget all ((newF comp l1.length i).set i (innerF comp i j))) ∧ Aside0 (Kd.R (Kd.int .i64) 3 w' w.heap.size (fun k => k ≠ F) (.slice Ac l1.length cc) comp))
     case atStart => exact ⟨0, rfl, ⟨by omega⟩, HP0, HR0⟩
     case round =>
      clear HP0 HR0
      obtain ⟨j, rfl, HK, HP, HR⟩ := hrel
      by_cases hlt2 : j < i
      ·cases gk with
       | zero => exact absurd HK.out (by omega)
       | succ gI =>
        obtain ⟨ad, rfl, hcj⟩ := Kd.at_int (qr HR.out).2.2 (j : Int) (by omega) (by rw [HCL.out]; omega)
        obtain ⟨ad', he', hci⟩ := Kd.at_int (qr HR.out).2.2 (i : Int) (by omega) (by rw [HCL.out]; omega)
        obtain rfl : ad = ad' := by injection he'
        rw [Int.toNat_natCast] at hcj hci
        have hg3 : wr.cell? ⟨g, 3, none⟩ = some (.slice (some ⟨F, 0, none⟩) l1.length l1.length) := (qe HP.out.1 3).trans rfl
        have hf1 := bools_cell HP.out.2.1 i (by rw [List.length_set, newF_len]; exact hlt)
        have hf2 : wr.frozen? ⟨F, i, none⟩ = false := qf HP.out.2.1 i
        have hstep : innerF comp i (j + 1) = if rd comp (j : Int) = rd comp (i : Int) then false else innerF comp i j := rfl
        have HSTP := qo hstep
        clear hstep he'
        generalize rd comp (j : Int) = x at *
        generalize rd comp (i : Int) = y at *
        by_cases hxy : x = y
        ·have hb1 : (x == y) = true := beq_iff_eq.2 hxy
         rw [if_pos hxy] at HSTP
         clear hxy
         go_wp2_with fail
         go_quiet (fail)
         go_wp2_with fail
         go_roundg gI
         case measure => omega
         case rel => exact ⟨j + 1, by go_num, ⟨by have := HK.out; omega⟩, ⟨by rw [HSTP.out]; have h := fun nq => (HP.out.below (qb (qaj _ _) nq)).setF i false; simp only [List.set_set] at h; exact h _⟩, ⟨qz (p := ⟨F, i, none⟩) (qg HR.out _) (fun k hk => hk) _⟩⟩
        ·have hb1 : (x == y) = false := beq_eq_false_iff_ne.2 hxy
         rw [if_neg hxy] at HSTP
         clear hxy
         go_wp2_with fail
         go_quiet (fail)
         go_wp2_with fail
         go_roundg gI
         case measure => omega
         case rel => exact ⟨j + 1, by go_num, ⟨by have := HK.out; omega⟩, ⟨by rw [HSTP.out]; exact HP.out.below (qb (qaj _ _) _)⟩, ⟨qg HR.out _⟩⟩
      ·have hj : j = i := by have := HK.out; omega
       have HP1 : Aside0 (NewSt w wr g F T P A1 c1 l1.length A2 c2 l2.length budget all (newF comp l1.length (i + 1))) := ⟨by have h := HP.out; rw [hj] at h; exact h⟩
       clear HP
       go_wp2_with fail
       go_roundg gO
       case measure => omega
       case rel => exact ⟨i + 1, by go_num, ⟨by have := HKO.out; omega⟩, HP1, HR⟩
   ·have hi : i = l1.length := by have := HK.out; omega
    have HP1 : Aside0 (NewSt w wr g F T P A1 c1 l1.length A2 c2 l2.length budget all (newF comp l1.length l1.length)) := ⟨by have h := HP.out; rw [hi] at h; exact h⟩
    clear hi
    go_wp2_with fail
    go_ret
    exact ⟨g, F, T, rfl, HP1.out⟩

end Go.Proofs.Ytpioelilfhkfdaa.XAll
