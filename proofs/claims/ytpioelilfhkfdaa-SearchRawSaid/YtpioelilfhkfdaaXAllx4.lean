-- This session's own text, written by wip/tools/xall.py after the form of the kit's print.
import Derived.Test.YtpioelilfhkfdaaXAllx0
import Derived.Test.YtpioelilfhkfdaaXAllx6
namespace Go.Proofs.Ytpioelilfhkfdaa.XAll
open Go.RowKit Go.Proofs.YtpioelilfhkfdaaW.PrintWords Go.Proofs.YtpioelilfhkfdaaW.PrintLast Go.Proofs.YtpioelilfhkfdaaW.PrintMore
attribute [local go_sem] max2_int min2_int max_two min_two max_three min_three max_four min_four   -- for this text's walks alone
set_option linter.unusedVariables false
set_option linter.unusedSimpArgs false

/-! ### search_prepare: function 58 -/
/-- Blocks laid one behind the other. -/
theorem five_blocks (w : World) (o0 o1 o2 o3 o4 : Obj) : (((((w.alloc o0).alloc o1).alloc o2).alloc o3).alloc o4).drew.heap[w.heap.size]? = some o0 ∧ (((((w.alloc o0).alloc o1).alloc o2).alloc o3).alloc o4).drew.heap[w.heap.size + 1]? = some o1 ∧ (((((w.alloc o0).alloc o1).alloc o2).alloc o3).alloc o4).drew.heap[w.heap.size + 1 + 1]? = some o2 ∧ (((((w.alloc o0).alloc o1).alloc o2).alloc o3).alloc o4).drew.heap[w.heap.size + 1 + 1 + 1]? = some o3 ∧ (((((w.alloc o0).alloc o1).alloc o2).alloc o3).alloc o4).drew.heap[w.heap.size + 1 + 1 + 1 + 1]? = some o4 := by
 have s : ∀ (W : World) (o : Obj), (W.alloc o).heap.size = W.heap.size + 1 := fun W o => World.size_alloc W o
 have h0 := blk_new w o0
 have h1 := blk_new (w.alloc o0) o1
 have h2 := blk_new ((w.alloc o0).alloc o1) o2
 have h3 := blk_new (((w.alloc o0).alloc o1).alloc o2) o3
 have h4 := blk_new ((((w.alloc o0).alloc o1).alloc o2).alloc o3) o4
 simp only [s] at h1 h2 h3 h4
 exact ⟨qm (qk (qk (qk (qk h0 _) _) _) _), qm (qk (qk (qk h1 _) _) _), qm (qk (qk h2 _) _), qm (qk h3 _), qm h4⟩
theorem bools_made (n : Nat) : madeCells #[Value.bool false] n = ((List.replicate n false).map Value.bool).toArray := by
 apply Array.toList_inj.1
 rw [toList_madeCells_one]
 simp
theorem ints_made (n : Nat) : madeCells #[Value.int .i64 0] n = ((List.replicate n (0 : Int)).map (Value.int .i64)).toArray := by
 apply Array.toList_inj.1
 rw [toList_madeCells_one]
 simp
/-- Rows without elements, made. -/
theorem rows_made {W : World} {R n base : Nat} {ok : Nat → Prop} (h : W.heap[R]? = some (.cells (madeCells #[.slice none 0 0] n) 22 (0, 0))) (hb : base ≤ R) (hok : ok R) (hn : n ≤ 48) : Kd.S (Kd.slice 3 (Kd.int .i64)) 22 W base ok (.slice (some ⟨R, 0, none⟩) n n) (List.replicate n []) := by
 refine Kd.S_bare ⟨fun k hk => by simp [Value.ownBlock] at hk; subst hk; exact hok, (madeCells #[.slice none 0 0] n).toList, ⟨?_, .inr ⟨R, n, _, by simp, hb, h, by simp, ?_, ?_, ?_⟩⟩, ?_⟩
 ·rw [toList_madeCells_one]; simp [Kd.bare, Kd.slice]
 ·unfold maxLen; omega
 ·rw [size_madeCells]; simp [Kd.bare, Kd.slice]
 ·simp [Kd.bare, Kd.slice, toList_madeCells_one]
 ·have := Kd.reps_made (R := ((Kd.bare (Kd.slice 3 (Kd.int .i64))).M W base (fun k => ok k ∧ some k ≠ (Value.slice (some ⟨R, 0, none⟩) n n).ownBlock))) (z := .slice none 0 0) (size := 1) (z0 := ([] : List Int)) rfl (by omega) ⟨_, rfl, Kd.R_nil _ _ _ _ _⟩ n
  rw [Nat.mul_one] at this
  exact this
def PrepSt (w W : World) (g F R T : Nat) (P : Int) (A1 : Option Addr) (c1 n : Nat) (A2 : Option Addr) (c2 m : Nat) (budget : Int) (all : Bool) (fs : List Bool) (rdy : List (List Int)) : Prop :=
 W.heap[g]? = some (.cells #[.int .i64 P, .slice A1 n c1, .slice A2 m c2, .slice (some ⟨F, 0, none⟩) n n, .slice (some ⟨R, 0, none⟩) n n, .bool all, .int .i64 budget, .slice (some ⟨T, 0, none⟩) n n, .bool false, .bool false, .slice none 0 0, .int .i64 0] 103 (0, 0)) ∧
  W.heap[F]? = some (.cells (fs.map Value.bool).toArray 4 (0, 0)) ∧ W.heap[T]? = some (.cells ((List.replicate n (0 : Int)).map (Value.int .i64)).toArray 3 (0, 0)) ∧
  Kd.S (Kd.slice 3 (Kd.int .i64)) 22 W w.heap.size (fun k => k ≠ g ∧ k ≠ F ∧ k ≠ T) (.slice (some ⟨R, 0, none⟩) n n) rdy ∧
  W.heap[w.heap.size]? = some (.cells #[.int .i64 P, .slice A1 n c1, .slice A2 m c2] 26 (0, 0)) ∧ (w.heap.size ≤ g ∧ w.heap.size ≤ F ∧ w.heap.size ≤ T) ∧ Below w.heap.size w W
theorem PrepSt.below {w W W1 : World} {g F R T : Nat} {P : Int} {A1 : Option Addr} {c1 n : Nat} {A2 : Option Addr} {c2 m : Nat} {budget : Int} {all : Bool} {fs : List Bool} {rdy : List (List Int)} (h : PrepSt w W g F R T P A1 c1 n A2 c2 m budget all fs rdy) (hb : Below W.heap.size W W1) : PrepSt w W1 g F R T P A1 c1 n A2 c2 m budget all fs rdy := by
 obtain ⟨h1, h2, h3, h4, h5, h6, h7⟩ := h
 exact ⟨qaa h1 hb, qaa h2 hb, qaa h3 hb, Kd.S_below h4 hb, qaa h5 hb, h6, qt h7 hb⟩
theorem bools_cell {w : World} {B : Nat} {bs : List Bool} (h : w.heap[B]? = some (.cells (bs.map Value.bool).toArray 4 (0, 0))) (i : Nat) (hi : i < bs.length) : w.cell? ⟨B, i, none⟩ = some (.bool (bs.getD i false)) := by
 rw [qe h]
 simp [List.getElem?_eq_getElem hi, List.getD_eq_getElem?_getD]
theorem PrepSt.setF {w W : World} {g F R T : Nat} {P : Int} {A1 : Option Addr} {c1 n : Nat} {A2 : Option Addr} {c2 m : Nat} {budget : Int} {all : Bool} {fs : List Bool} {rdy : List (List Int)} (h : PrepSt w W g F R T P A1 c1 n A2 c2 m budget all fs rdy) (i : Nat) (b : Bool) : PrepSt w (W.setCell ⟨F, i, none⟩ (.bool b)) g F R T P A1 c1 n A2 c2 m budget all (fs.set i b) rdy := by
 obtain ⟨h1, h2, h3, h4, h5, h6, h7⟩ := h
 refine ⟨qam h1 (p := ⟨F, i, none⟩) (blk_ne h1 h2 (by decide)) _, ?_, qam h3 (p := ⟨F, i, none⟩) (blk_ne h3 h2 (by decide)) _, Kd.S_far (p := ⟨F, i, none⟩) h4 (fun k hk => hk.2.1) _, qam h5 (p := ⟨F, i, none⟩) (blk_ne h5 h2 (by decide)) _, h6, qn h7 h6.2.1⟩
 have := blk_set h2 i (.bool b)
 simpa [List.map_set] using this
/-- Which events are the first of their component: the first i told, and the greatest number so far. -/
def fstep (comp : List Int) (n : Nat) : Nat → List Bool × Int
 | 0 => (List.replicate n false, -1)
 | i + 1 => ((fstep comp n i).1.set i (decide ((fstep comp n i).2 < rd comp (i : Int))), if (fstep comp n i).2 < rd comp (i : Int) then rd comp (i : Int) else (fstep comp n i).2)
theorem fstep_len (comp : List Int) (n : Nat) : ∀ i, (fstep comp n i).1.length = n
 | 0 => List.length_replicate
 | i + 1 => by show ((fstep comp n i).1.set i _).length = n; rw [List.length_set]; exact fstep_len comp n i
/-- The later of an activity's two events. -/
def late (a : S62) : Int := if a.f1 < a.f2 then a.f2 else a.f1
/-- The activities by their later events: the first i; and the cost without slack. -/
def rstep (ac : List S62) (n : Nat) : Nat → List (List Int) × Int
 | 0 => (List.replicate n [], 0)
 | i + 1 => ((rstep ac n i).1.set (late (rd_T62 ac (i : Int))).toNat (rdL (rstep ac n i).1 (late (rd_T62 ac (i : Int))) ++ [(i : Int)]), (rstep ac n i).2 + (rd_T62 ac (i : Int)).f5 * (rd_T62 ac (i : Int)).f3)
theorem rstep_len (ac : List S62) (n : Nat) : ∀ i, (rstep ac n i).1.length = n
 | 0 => List.length_replicate
 | i + 1 => by show ((rstep ac n i).1.set _ _).length = n; rw [List.length_set]; exact rstep_len ac n i
theorem rstep_bd {P : Int} {ac : List S62} {n : Nat} (hgood : ∀ a ∈ ac, GoodAct P n a) : ∀ i : Nat, i ≤ ac.length → -68719476736 * (i : Int) ≤ (rstep ac n i).2 ∧ (rstep ac n i).2 ≤ 68719476736 * (i : Int)
 | 0, _ => ⟨by simp [rstep], by simp [rstep]⟩
 | i + 1, hi => by
  have ih := rstep_bd hgood i (by omega)
  have hg := hgood _ (rd36' ac (i : Int) (by omega) (by omega))
  show _ ≤ (rstep ac n i).2 + (rd_T62 ac (i : Int)).f5 * (rd_T62 ac (i : Int)).f3 ∧ (rstep ac n i).2 + (rd_T62 ac (i : Int)).f5 * (rd_T62 ac (i : Int)).f3 ≤ _
  generalize rd_T62 ac (i : Int) = x at *
  obtain ⟨_, _, ⟨q3, q3'⟩, _, q5, q5'⟩ := hg
  have h1 := Int.mul_le_mul_of_nonneg_left q3 q5
  have h2 := Int.mul_le_mul_of_nonneg_left q3' q5
  omega
/-- An activity more in a row of the finder's: before the append, and behind the store. -/
theorem prep_app {w W : World} {g F R T : Nat} {P : Int} {A1 : Option Addr} {c1 n : Nat} {A2 : Option Addr} {c2 m : Nat} {budget : Int} {all : Bool} {fs : List Bool} {rdy : List (List Int)} (h : PrepSt w W g F R T P A1 c1 n A2 c2 m budget all fs rdy) (kk z : Int) (hk0 : 0 ≤ kk) (hk1 : kk < n) :
  ∃ (Av : Option Addr) (cv : Nat) (ok : Nat → Prop), W.cell? ⟨g, 4, none⟩ = some (.slice (some ⟨R, 0, none⟩) n n) ∧ W.cell? ⟨R, kk.toNat, none⟩ = some (.slice Av (rdL rdy kk).length cv) ∧ W.frozen? ⟨R, kk.toNat, none⟩ = false ∧ Kd.R (Kd.int .i64) 3 W w.heap.size ok (.slice Av (rdL rdy kk).length cv) (rdL rdy kk) ∧ (∀ k, W.heap.size ≤ k → ok k) ∧
   ∀ (W1 : World) (v5 : Value), Kd.R (Kd.int .i64) 3 W1 w.heap.size ok v5 (rdL rdy kk ++ [z]) → Below w.heap.size w W1 → W.grownBy W1 (Value.slice Av (rdL rdy kk).length cv).ownBlock →
    W1.cell? ⟨g, 4, none⟩ = some (.slice (some ⟨R, 0, none⟩) n n) ∧ W1.cell? ⟨R, kk.toNat, none⟩ = some (.slice Av (rdL rdy kk).length cv) ∧ W1.frozen? ⟨R, kk.toNat, none⟩ = false ∧ PrepSt w (W1.setCell ⟨R, kk.toNat, none⟩ v5) g F R T P A1 c1 n A2 c2 m budget all fs (rdy.set kk.toNat (rdL rdy kk ++ [z])) ∧
     ∀ (b : Nat) (cells : Array Value), W.heap[b]? = some (Obj.cells cells 62 (0, 0)) → (W1.setCell ⟨R, kk.toNat, none⟩ v5).heap[b]? = some (Obj.cells cells 62 (0, 0)) := by
 obtain ⟨p1, p2, p3, p4, p5, p6, p7⟩ := h
 obtain ⟨oki, c, hcl, hM, hcc, hfr, hoki, hH⟩ := Kd.S_elem p4 [] kk hk0 hk1
 obtain ⟨v0, rfl, hR0⟩ := hM
 have hR1 : Kd.R (Kd.int .i64) 3 W w.heap.size oki v0 (rdL rdy kk) := hR0
 obtain ⟨Av, cv, rfl⟩ := qak hR1
 have hv0 := hcc 0 _ rfl
 rw [Nat.add_zero, show ((Kd.slice 3 (Kd.int .i64))).sz = 1 from rfl, Nat.mul_one] at hv0
 have hf0 := hfr 0
 rw [Nat.add_zero, show ((Kd.slice 3 (Kd.int .i64))).sz = 1 from rfl, Nat.mul_one] at hf0
 have hHw := Kd.H_widen hH
 refine ⟨Av, cv, fun k => oki k ∨ (k ≠ g ∧ k ≠ F ∧ k ≠ T) ∧ W.heap.size ≤ k, (qe p1 4).trans rfl, hv0, hf0, qy hR1 (fun k hk => .inl hk), fun k hk => .inr ⟨⟨by have := blk_lt p1; omega, by have := blk_lt p2; omega, by have := blk_lt p3; omega⟩, hk⟩, fun W1 v5 ho hb hg => ?_⟩
 obtain ⟨cR, hcR⟩ := Kd.S_typed p4 R (by simp [Value.ownBlock])
 have hnT : some T ≠ (Value.slice Av (rdL rdy kk).length cv).ownBlock := fun e => (hoki T (hR1.1 T e.symm)).1.2.2 rfl
 have q1 := blk_grown p1 hg (Kd.R_ne hR1 p1 (by decide))
 have q2 := blk_grown p2 hg (Kd.R_ne hR1 p2 (by decide))
 have q3 := blk_grown p3 hg hnT
 have q5 := blk_grown p5 hg (Kd.R_ne hR1 p5 (by decide))
 have qR := blk_grown hcR hg (Kd.R_ne hR1 hcR (by decide))
 have hRb : w.heap.size ≤ R := Kd.S_base p4 R (by simp [Value.ownBlock])
 have hH1 := Kd.H_mono (ok' := fun k => (k ≠ g ∧ k ≠ F ∧ k ≠ T) ∧ ¬ False) (Kd.H_grown hHw hg (fun k hk => .inl (hR1.1 k hk))) (fun k hk => ⟨hk, fun h => h⟩)
 have hS := (Kd.S_seg (okg := fun _ => False) (okp := fun k => oki k ∨ (k ≠ g ∧ k ≠ F ∧ k ≠ T) ∧ W.heap.size ≤ k) (seg := [v5]) (j := 0) (x' := rdL rdy kk ++ [z]) hH1 hk0 hk1 (by simp [Kd.slice]) (by simpa using Kd.M_row ho) (fun k hk => .inl hk) (fun k hk => hk.elim)).1
 refine ⟨(qe q1 4).trans rfl, (qe qR kk.toNat).trans ((qe hcR kk.toNat).symm.trans hv0), qf qR _, ⟨qam q1 (p := ⟨R, kk.toNat, none⟩) (blk_ne q1 qR (by decide)) _, qam q2 (p := ⟨R, kk.toNat, none⟩) (blk_ne q2 qR (by decide)) _, qam q3 (p := ⟨R, kk.toNat, none⟩) (blk_ne q3 qR (by decide)) _, ?_, qam q5 (p := ⟨R, kk.toNat, none⟩) (blk_ne q5 qR (by decide)) _, p6, qn hb hRb⟩, fun b cells hbb => qam (blk_grown hbb hg (Kd.R_ne hR1 hbb (show (3 : Nat) ≠ 62 by decide))) (p := ⟨R, kk.toNat, none⟩) (blk_ne (blk_grown hbb hg (Kd.R_ne hR1 hbb (show (3 : Nat) ≠ 62 by decide))) qR (show (62 : Nat) ≠ 22 by decide)) _⟩
 simpa [World.setCells, Kd.slice] using hS
theorem rstep_row (ac : List S62) (n : Nat) : ∀ (i : Nat) (k : Int), (rdL (rstep ac n i).1 k).length ≤ i
 | 0, k => by
  show (rdL (List.replicate n []) k).length ≤ 0
  unfold rdL
  rw [List.getD_eq_getElem?_getD, List.getElem?_replicate]
  split <;> simp
 | i + 1, k => by
  show (rdL ((rstep ac n i).1.set (late (rd_T62 ac (i : Int))).toNat (rdL (rstep ac n i).1 (late (rd_T62 ac (i : Int))) ++ [(i : Int)])) k).length ≤ i + 1
  have h1 := rstep_row ac n i (late (rd_T62 ac (i : Int)))
  have h2 := rstep_row ac n i k
  generalize late (rd_T62 ac (i : Int)) = q at *
  have e : ∀ (xs : List (List Int)) (y : List Int) (a b : Nat), (xs.set a y).getD b [] = y ∨ (xs.set a y).getD b [] = xs.getD b [] ∨ (xs.set a y).getD b [] = [] := fun xs y a b => by
   rw [List.getD_eq_getElem?_getD, List.getElem?_set]
   split
   ·split
    ·exact .inl rfl
    ·exact .inr (.inr rfl)
   ·exact .inr (.inl (List.getD_eq_getElem?_getD ..).symm)
  rcases e (rstep ac n i).1 (rdL (rstep ac n i).1 q ++ [(i : Int)]) q.toNat k.toNat with h | h | h
  ·show ((((rstep ac n i).1.set q.toNat (rdL (rstep ac n i).1 q ++ [(i : Int)])).getD k.toNat [])).length ≤ i + 1
   rw [h, List.length_append, List.length_singleton]; omega
  ·show ((((rstep ac n i).1.set q.toNat (rdL (rstep ac n i).1 q ++ [(i : Int)])).getD k.toNat [])).length ≤ i + 1
   rw [h]; exact Nat.le_succ_of_le h2
  ·show ((((rstep ac n i).1.set q.toNat (rdL (rstep ac n i).1 q ++ [(i : Int)])).getD k.toNat [])).length ≤ i + 1
   rw [h]; simp
set_option maxHeartbeats 4000000 in
set_option maxRecDepth 100000 in
theorem prep1 (P : Int) (A1 : Option Addr) (c1 : Nat) (l1 : List S60) (A2 : Option Addr) (c2 : Nat) (l2 : List S62) (budget : Int) (all : Bool) (comp : List Int) (w : World) (hn : l1.length ≤ 48) (hm : l2.length ≤ 512) (hr2 : Kd.C k62 w A2 l2.length l2) (hgood : ∀ a ∈ l2, GoodAct P l1.length a) (hcl : comp.length = l1.length)
  (hcomp : ∀ W, Below w.heap.size w W → Calls Try.prog 73 #[.agg #[.int .i64 P, .slice A1 l1.length c1, .slice A2 l2.length c2]] W fun e w' => ∃ v0 : Value, e = .returned v0 ∧ Kd.R (Kd.int .i64) 3 w' W.heap.size (fun _ => True) v0 comp ∧ Below W.heap.size W w') :
  Calls Try.prog 58 #[.agg #[.int .i64 P, .slice A1 l1.length c1, .slice A2 l2.length c2], .int .i64 budget, .bool all] w fun e w' => ∃ g F R T : Nat, e = .returned (.tuple #[.pointer (some ⟨g, 0, none⟩), .int .i64 (rstep l2 l1.length l2.length).2]) ∧ PrepSt w w' g F R T P A1 c1 l1.length A2 c2 l2.length budget all (fstep comp l1.length l1.length).1 (rstep l2 l1.length l2.length).1 := by
 have hm1 := fun W => run_make_row' (P := Try.prog) 68 4 (.bool false) 1 Try.underlying68 (by kernel_rfl) rfl .i64 .i64 l1.length (by omega) (by omega) W
 have hm2 := fun W => run_make_row' (P := Try.prog) 101 22 (.slice none 0 0) 24 Try.underlying101 (by kernel_rfl) rfl .i64 .i64 l1.length (by omega) (by omega) W
 have hm3 := fun W => run_make_row' (P := Try.prog) 22 3 (.int .i64 0) 8 Try.underlying22 (by kernel_rfl) rfl .i64 .i64 l1.length (by omega) (by omega) W
 have HGOOD := qo hgood
 have HR2 := qo hr2
 have HCO := qo hcomp
 have HCL := qo hcl
 clear hgood hr2 hcomp hcl
 go_enter Try.func58, Try.ntmps58
 go_upto_region 1 with (fail)
 go_cut [8] (fun v8 wc => ∃ g F R T : Nat, v8 = .pointer (some ⟨g, 0, none⟩) ∧ Aside0 (PrepSt w wc g F R T P A1 c1 l1.length A2 c2 l2.length budget all (List.replicate l1.length false) (List.replicate l1.length [])))
 case first =>
  go_region
  all_goals (go_wp2_with fail; go_meet)
  all_goals (
   obtain ⟨b0, b1, b2, b3, b4⟩ := five_blocks w (.cells #[.int .i64 P, .slice A1 l1.length c1, .slice A2 l2.length c2] 26) _ _ _ _
   refine ⟨_, _, _, _, rfl, ⟨b4, ?_, ?_, rows_made (by first | exact b1 | exact b2 | exact b3) (by omega) (by omega) hn, b0, ⟨by omega, by omega, by omega⟩, by repeat (first | exact qaj _ _ | apply qc | apply qd | apply qb)⟩⟩
   ·rw [← bools_made]; first | exact b1 | exact b2 | exact b3
   ·rw [← ints_made]; first | exact b1 | exact b2 | exact b3)
 case rest =>
  obtain ⟨g, F, R, T, rfl, HP⟩ := hcut
  clear hm1 hm2 hm3
  have hb0 := HP.out.2.2.2.2.1
  have k0 := (qe hb0 0).trans rfl
  have k1 := (qe hb0 1).trans rfl
  have k2 := (qe hb0 2).trans rfl
  have HB0 := qo hb0
  clear hb0
  go_wp2_with (go_at_call 73; refine (HCO.out wc HP.out.2.2.2.2.2.2).mono ?_; rintro e w1 ⟨v0, rfl, ho, hd⟩; obtain ⟨Ac, cc, ev⟩ := qak ho; rw [HCL.out] at ev; subst ev; have HO := qo ho; have HD := qo hd; clear ho hd)
  have HP1 := qo (HP.out.below HD.out)
  have HR1 : Aside0 (Kd.R (Kd.int .i64) 3 w1 w.heap.size (fun k => k ≠ F) (.slice Ac l1.length cc) comp) := ⟨qag (qy (Kd.R_bound HO.out) (fun k hk => by have h1 := hk.2.1; have h2 := blk_lt HP.out.2.1; show k ≠ F; omega)) (qu HP.out.2.2.2.2.2.2)⟩
  clear HP HO HD k0 k1 k2 HB0 HCO
  go_loopg [36, 9] l1.length (fun kq v36 v9 w' => ∃ i : Nat, v36 = .int .i64 (i : Int) ∧ v9 = .int .i64 (fstep comp l1.length i).2 ∧ Aside0 (i + kq = l1.length) ∧ Aside0 (PrepSt w w' g F R T P A1 c1 l1.length A2 c2 l2.length budget all (fstep comp l1.length i).1 (List.replicate l1.length [])) ∧ Aside0 (Kd.R (Kd.int .i64) 3 w' w.heap.size (fun k => k ≠ F) (.slice Ac l1.length cc) comp))
  case atStart => exact ⟨0, rfl, rfl, ⟨by omega⟩, HP1, HR1⟩
  case round =>
   clear HP1 HR1
   obtain ⟨i, rfl, rfl, HK, HP, HR⟩ := hrel
   by_cases hlt : i < l1.length
   ·cases gk with
    | zero => exact absurd HK.out (by omega)
    | succ gO =>
     obtain ⟨ad, rfl, hc⟩ := Kd.at_int (qr HR.out).2.2 (i : Int) (by omega) (by rw [HCL.out]; omega)
     rw [Int.toNat_natCast] at hc
     have hg3 : wr.cell? ⟨g, 3, none⟩ = some (.slice (some ⟨F, 0, none⟩) l1.length l1.length) := (qe HP.out.1 3).trans rfl
     have hf1 := bools_cell HP.out.2.1 i (by rw [fstep_len]; exact hlt)
     have hf2 : wr.frozen? ⟨F, i, none⟩ = false := qf HP.out.2.1 i
     generalize hmo : (fstep comp l1.length i).2 = most at *
     generalize hcx : rd comp (i : Int) = cx at *
     have HMO := qo hmo
     have HCX := qo hcx
     clear hmo hcx
     by_cases hgt : most < cx
     ·have hgb : decide (most < cx) = true := qac hgt
      go_wp2_with fail
      go_roundg gO
      case measure => omega
      case rel => exact ⟨i + 1, by go_num, by show _ = Value.int .i64 (if (fstep comp l1.length i).2 < rd comp (i : Int) then rd comp (i : Int) else (fstep comp l1.length i).2); rw [HMO.out, HCX.out, if_pos (by omega)], ⟨by have := HK.out; omega⟩, ⟨by have h := HP.out.setF i true; rw [show (fstep comp l1.length (i + 1)).1 = (fstep comp l1.length i).1.set i true from by show (fstep comp l1.length i).1.set i (decide ((fstep comp l1.length i).2 < rd comp (i : Int))) = _; rw [HMO.out, HCX.out, qac (by omega)]]; exact h⟩, ⟨qz (p := ⟨F, i, none⟩) HR.out (fun k hk => hk) _⟩⟩
     ·have hgb : decide (most < cx) = false := qad hgt
      go_wp2_with fail
      go_roundg gO
      case measure => omega
      case rel => exact ⟨i + 1, by go_num, by show _ = Value.int .i64 (if (fstep comp l1.length i).2 < rd comp (i : Int) then rd comp (i : Int) else (fstep comp l1.length i).2); rw [HMO.out, HCX.out, if_neg (by omega)], ⟨by have := HK.out; omega⟩, ⟨by have h := HP.out.setF i false; rw [show (fstep comp l1.length (i + 1)).1 = (fstep comp l1.length i).1.set i false from by show (fstep comp l1.length i).1.set i (decide ((fstep comp l1.length i).2 < rd comp (i : Int))) = _; rw [HMO.out, HCX.out, qad (by omega)]]; exact h⟩, ⟨qz (p := ⟨F, i, none⟩) HR.out (fun k hk => hk) _⟩⟩
   ·have hi : i = l1.length := by have := HK.out; omega
    have HP1 : Aside0 (PrepSt w wr g F R T P A1 c1 l1.length A2 c2 l2.length budget all (fstep comp l1.length l1.length).1 (List.replicate l1.length [])) := ⟨by have h := HP.out; rw [hi] at h; exact h⟩
    have HI := qo hi
    clear hi HP HR
    have k2 := (qe HP1.out.2.2.2.2.1 2).trans rfl
    go_wp2_with fail
    clear k2
    obtain ⟨fs, hfs⟩ : ∃ fs, fs = (fstep comp l1.length l1.length).1 := ⟨_, rfl⟩
    rw [← hfs] at HP1
    have HFS := qo hfs
    clear hfs
    go_loopg [57, 12] l2.length (fun kq v57 v12 w' => ∃ i : Nat, v57 = .int .i64 (i : Int) ∧ v12 = .int .i64 (rstep l2 l1.length i).2 ∧ Aside0 (i + kq = l2.length) ∧ Aside0 (PrepSt w w' g F R T P A1 c1 l1.length A2 c2 l2.length budget all fs (rstep l2 l1.length i).1))
    case atStart => exact ⟨0, rfl, rfl, ⟨by omega⟩, HP1⟩
    case round =>
     clear HP1
     obtain ⟨i, rfl, rfl, HK, HP⟩ := hrel
     by_cases hlt2 : i < l2.length
     ·cases gk with
      | zero => exact absurd HK.out (by omega)
      | succ gO =>
       have hga := HGOOD.out _ (rd36' l2 (i : Int) (by omega) (by omega))
       obtain ⟨aa, rfl, ha0, ha1, ha2, ha3, ha4, ha5⟩ := at_T62 (qs HR2.out HP.out.2.2.2.2.2.2) (i : Int) (by omega) (by omega)
       simp only [Int.toNat_natCast] at ha0 ha1 ha2 ha3 ha4 ha5
       have hbd := rstep_bd HGOOD.out i (by omega)
       generalize hsm : (rstep l2 l1.length i).2 = sm at *
       generalize hx : rd_T62 l2 (i : Int) = x at *
       have HX := qo hx
       have HSM := qo hsm
       clear hx hsm
       obtain ⟨⟨q1, q1'⟩, ⟨q2, q2'⟩, ⟨q3, q3'⟩, ⟨q4, q4'⟩, q5, q5'⟩ := hga
       have m1 := Int.mul_le_mul_of_nonneg_left q3 q5
       have m2 := Int.mul_le_mul_of_nonneg_left q3' q5
       by_cases hmx : x.f1 < x.f2
       ·have hk0 : 0 ≤ x.f2 := by omega
        have hk1 : x.f2 < (l1.length : Int) := by omega
        go_wp2_with fail
        have hbl := qc (qaj wr.heap.size wr) (.cells #[.int .i64 x.f0, .int .i64 x.f1, .int .i64 x.f2, .int .i64 x.f3, .int .i64 x.f4, .int .i64 x.f5] 62)
        have hpv := (HP.out.below hbl).below (qd (qaj _ _))
        have hbk := qm (blk_new wr (.cells #[.int .i64 x.f0, .int .i64 x.f1, .int .i64 x.f2, .int .i64 x.f3, .int .i64 x.f4, .int .i64 x.f5] 62))
        clear hbl ha0 ha1 ha2 ha3 ha4 ha5
        obtain ⟨Av, cv, okr, e1, e2, e3, hrow, hfr, hnext⟩ := prep_app hpv x.f2 (i : Int) hk0 hk1
        have HB := qo hpv.2.2.2.2.2.2
        have HROW := qo hrow
        have HFR := qo hfr
        have HNX := qo hnext
        have HBK := qo hbk
        clear hpv hrow hfr hnext hbk
        generalize hwv : wr.alloc (.cells #[.int .i64 x.f0, .int .i64 x.f1, .int .i64 x.f2, .int .i64 x.f3, .int .i64 x.f4, .int .i64 x.f5] 62) = wv at *
        generalize hbA : wr.heap.size = bA at *
        clear hwv hbA
        replace e1 : wv.cell? ⟨g, 4, none⟩ = some (.slice (some ⟨R, 0, none⟩) l1.length l1.length) := e1
        replace e2 : wv.cell? ⟨R, x.f2.toNat, none⟩ = some (.slice Av (rdL (rstep l2 l1.length i).1 x.f2).length cv) := e2
        replace e3 : wv.frozen? ⟨R, x.f2.toNat, none⟩ = false := e3
        have al1 := pw_cell_below (qc (qaj wv.drew.heap.size wv.drew) (.cells #[.int .i64 (i : Int)] 3)) (show wv.drew.cell? ⟨g, 4, none⟩ = some (.slice (some ⟨R, 0, none⟩) l1.length l1.length) from e1)
        have al2 := pw_cell_below (qc (qaj wv.drew.heap.size wv.drew) (.cells #[.int .i64 (i : Int)] 3)) (show wv.drew.cell? ⟨R, x.f2.toNat, none⟩ = some (.slice Av (rdL (rstep l2 l1.length i).1 x.f2).length cv) from e2)
        have al3 : (wv.alloc (.cells #[.int .i64 (i : Int)] 3)).cell? ⟨g, 4, none⟩ = some (.slice (some ⟨R, 0, none⟩) l1.length l1.length) := pw_cell_below (qc (qaj _ _) _) e1
        have al4 : (wv.alloc (.cells #[.int .i64 (i : Int)] 3)).cell? ⟨R, x.f2.toNat, none⟩ = some (.slice Av (rdL (rstep l2 l1.length i).1 x.f2).length cv) := pw_cell_below (qc (qaj _ _) _) e2
        have hll : (rdL (rstep l2 l1.length i).1 x.f2).length ≤ i := rstep_row l2 l1.length i x.f2
        go_region_law (refine Kd.R_append_step (Kd.int .i64) (w0 := w) w.heap.size (by rfl) (.tmp 78) (.tmp 80) 22 3 (.int .i64 0) 8 rfl Try.underlying22 info3 rfl (by decide) (by omega) _ (rdL (rstep l2 l1.length i).1 x.f2) (i : Int) [.int .i64 (i : Int)] okr (fun _ => False) rfl rfl rfl (fun _ hk => hk.elim) HFR.out HROW.out HB.out (qu HB.out) (by omega) ?_; intro v5 w5 ho5 hb5 hg5 hat5; obtain ⟨A5, L5, c5, rfl⟩ : ∃ A5 L5 c5, v5 = .slice A5 L5 c5 := (by obtain ⟨A, c, e⟩ := qak ho5; exact ⟨A, _, c, e⟩); obtain ⟨f1, f2, f3, f4, f5⟩ := HNX.out w5 _ ho5 hb5 hg5; have HF4 := qo f4; have HF5 := qo f5; clear ho5 hb5 hg5 hat5 f4 f5)
        all_goals (
         generalize hw6 : World.setCell _ _ (.slice A5 L5 c5) = w6 at *
         clear hw6
         have kb := HF5.out bA _ HBK.out
         have kb3 := (qe kb 3).trans rfl
         have kb5 := (qe kb 5).trans rfl
         clear kb e1 e2 e3 f1 f2 f3 al1 al2 al3 al4
         go_wp2_with fail
         go_roundg gO
         case measure => omega
         case rel => exact ⟨i + 1, by go_num, by show _ = Value.int .i64 ((rstep l2 l1.length i).2 + (rd_T62 l2 (i : Int)).f5 * (rd_T62 l2 (i : Int)).f3); rw [HX.out, HSM.out], ⟨by have := HK.out; omega⟩, ⟨by show PrepSt w _ g F R T P A1 c1 l1.length (some aa) c2 l2.length budget all fs ((rstep l2 l1.length i).1.set (late (rd_T62 l2 (i : Int))).toNat (rdL (rstep l2 l1.length i).1 (late (rd_T62 l2 (i : Int))) ++ [(i : Int)])); rw [HX.out, show late x = x.f2 from if_pos hmx]; exact HF4.out⟩⟩)
       ·have hk0 : 0 ≤ x.f1 := by omega
        have hk1 : x.f1 < (l1.length : Int) := by omega
        go_wp2_with fail
        have hbl := qc (qaj wr.heap.size wr) (.cells #[.int .i64 x.f0, .int .i64 x.f1, .int .i64 x.f2, .int .i64 x.f3, .int .i64 x.f4, .int .i64 x.f5] 62)
        have hpv := (HP.out.below hbl).below (qd (qaj _ _))
        have hbk := qm (blk_new wr (.cells #[.int .i64 x.f0, .int .i64 x.f1, .int .i64 x.f2, .int .i64 x.f3, .int .i64 x.f4, .int .i64 x.f5] 62))
        clear hbl ha0 ha1 ha2 ha3 ha4 ha5
        obtain ⟨Av, cv, okr, e1, e2, e3, hrow, hfr, hnext⟩ := prep_app hpv x.f1 (i : Int) hk0 hk1
        have HB := qo hpv.2.2.2.2.2.2
        have HROW := qo hrow
        have HFR := qo hfr
        have HNX := qo hnext
        have HBK := qo hbk
        clear hpv hrow hfr hnext hbk
        generalize hwv : wr.alloc (.cells #[.int .i64 x.f0, .int .i64 x.f1, .int .i64 x.f2, .int .i64 x.f3, .int .i64 x.f4, .int .i64 x.f5] 62) = wv at *
        generalize hbA : wr.heap.size = bA at *
        clear hwv hbA
        replace e1 : wv.cell? ⟨g, 4, none⟩ = some (.slice (some ⟨R, 0, none⟩) l1.length l1.length) := e1
        replace e2 : wv.cell? ⟨R, x.f1.toNat, none⟩ = some (.slice Av (rdL (rstep l2 l1.length i).1 x.f1).length cv) := e2
        replace e3 : wv.frozen? ⟨R, x.f1.toNat, none⟩ = false := e3
        have al1 := pw_cell_below (qc (qaj wv.drew.heap.size wv.drew) (.cells #[.int .i64 (i : Int)] 3)) (show wv.drew.cell? ⟨g, 4, none⟩ = some (.slice (some ⟨R, 0, none⟩) l1.length l1.length) from e1)
        have al2 := pw_cell_below (qc (qaj wv.drew.heap.size wv.drew) (.cells #[.int .i64 (i : Int)] 3)) (show wv.drew.cell? ⟨R, x.f1.toNat, none⟩ = some (.slice Av (rdL (rstep l2 l1.length i).1 x.f1).length cv) from e2)
        have al3 : (wv.alloc (.cells #[.int .i64 (i : Int)] 3)).cell? ⟨g, 4, none⟩ = some (.slice (some ⟨R, 0, none⟩) l1.length l1.length) := pw_cell_below (qc (qaj _ _) _) e1
        have al4 : (wv.alloc (.cells #[.int .i64 (i : Int)] 3)).cell? ⟨R, x.f1.toNat, none⟩ = some (.slice Av (rdL (rstep l2 l1.length i).1 x.f1).length cv) := pw_cell_below (qc (qaj _ _) _) e2
        have hll : (rdL (rstep l2 l1.length i).1 x.f1).length ≤ i := rstep_row l2 l1.length i x.f1
        go_region_law (refine Kd.R_append_step (Kd.int .i64) (w0 := w) w.heap.size (by rfl) (.tmp 78) (.tmp 80) 22 3 (.int .i64 0) 8 rfl Try.underlying22 info3 rfl (by decide) (by omega) _ (rdL (rstep l2 l1.length i).1 x.f1) (i : Int) [.int .i64 (i : Int)] okr (fun _ => False) rfl rfl rfl (fun _ hk => hk.elim) HFR.out HROW.out HB.out (qu HB.out) (by omega) ?_; intro v5 w5 ho5 hb5 hg5 hat5; obtain ⟨A5, L5, c5, rfl⟩ : ∃ A5 L5 c5, v5 = .slice A5 L5 c5 := (by obtain ⟨A, c, e⟩ := qak ho5; exact ⟨A, _, c, e⟩); obtain ⟨f1, f2, f3, f4, f5⟩ := HNX.out w5 _ ho5 hb5 hg5; have HF4 := qo f4; have HF5 := qo f5; clear ho5 hb5 hg5 hat5 f4 f5)
        all_goals (
         generalize hw6 : World.setCell _ _ (.slice A5 L5 c5) = w6 at *
         clear hw6
         have kb := HF5.out bA _ HBK.out
         have kb3 := (qe kb 3).trans rfl
         have kb5 := (qe kb 5).trans rfl
         clear kb e1 e2 e3 f1 f2 f3 al1 al2 al3 al4
         go_wp2_with fail
         go_roundg gO
         case measure => omega
         case rel => exact ⟨i + 1, by go_num, by show _ = Value.int .i64 ((rstep l2 l1.length i).2 + (rd_T62 l2 (i : Int)).f5 * (rd_T62 l2 (i : Int)).f3); rw [HX.out, HSM.out], ⟨by have := HK.out; omega⟩, ⟨by show PrepSt w _ g F R T P A1 c1 l1.length (some aa) c2 l2.length budget all fs ((rstep l2 l1.length i).1.set (late (rd_T62 l2 (i : Int))).toNat (rdL (rstep l2 l1.length i).1 (late (rd_T62 l2 (i : Int))) ++ [(i : Int)])); rw [HX.out, show late x = x.f1 from if_neg (by omega)]; exact HF4.out⟩⟩)
     ·have hi : i = l2.length := by have := HK.out; omega
      have HI2 := qo hi
      clear hi
      go_wp2_with fail
      go_ret2
      have e := congrArg (fun q => (rstep l2 l1.length q).2) HI2.out
      replace e : (rstep l2 l1.length i).2 = (rstep l2 l1.length l2.length).2 := e
      exact ⟨g, F, R, T, by rw [← e]; rfl, by have h := HP.out; rw [HI2.out, HFS.out] at h; exact h⟩

end Go.Proofs.Ytpioelilfhkfdaa.XAll
