/- Mean is the greatest mean of all cycles, in lowest terms; for all arguments. -/
import Derived.Test.YtnmhdeibjglhcaaXMaxplusCyclesx9
import Derived.Test.YtnmhdeibjglhcaaMpCyc
import Derived.OpenShut
set_option linter.unusedVariables false
set_option linter.unusedSimpArgs false
set_option linter.unusedSectionVars false
namespace Go.Proofs.Ytnmhdeibjglhcaa.Pure
open Go.RowKit Go.Proofs.Ytnmhdeibjglhcaa.XMaxplusCycles Go.Proofs.YtnmhdeibjglhcaaW.PrintWords Go.Proofs.YtnmhdeibjglhcaaW.PrintLast Go.Proofs.YtnmhdeibjglhcaaW.PrintMore Go.Proofs.Ytnmhdeibjglhcaa.MpMath Go.Proofs.Ytnmhdeibjglhcaa.MpWalk Go.Proofs.Ytnmhdeibjglhcaa.MpCyc

/-- Not by sight: the kernel is not to look into what is bound. -/
theorem obind {α β : Type} (a : α) (f : α → Option β) : (some a).bind f = f a := by cases h : f a <;> simp [h]
theorem wr {x : Int} (h1 : -9223372036854775808 ≤ x) (h2 : x ≤ 9223372036854775807) : wrap64 x = x := by unfold wrap64; omega
theorem Ev_succ {α : Type} {g : Nat → Option α} {r : α} (h : Ev (fun k => g (k + 1)) r) : Ev g r := Ev.step (fun _ => rfl) h
theorem mn_eq (a b : Int) : mn a b = min a b := by unfold mn; omega
theorem mx_eq (a b : Int) : mx a b = max a b := by unfold mx; omega
theorem rd_tab (n : Nat) (f : Nat → Int) (i : Int) (h0 : 0 ≤ i) (h : i < n) : rd (tab n f) i = f i.toNat := by
  unfold rd; exact getD_tab n f 0 i.toNat (by omega)
theorem uwrap (n : Int) : IntKind.u64.wrap n = n % 18446744073709551616 := by
  unfold IntKind.wrap
  simp only [IntKind.signed, IntKind.bits, Bool.false_and, Bool.false_eq_true, if_false]
  rfl

theorem pick_f (a n : Int) (h1 : 1 ≤ n) (h2 : n ≤ 9223372036854775807) : ∃ r, railplankeep_Pick.f a n = some r ∧ 0 ≤ r ∧ r < n := by
  unfold railplankeep_Pick.f
  have e : IntKind.u64.wrap n = n := by rw [uwrap]; omega
  have h0 : 0 ≤ IntKind.u64.wrap a := by rw [uwrap]; omega
  rw [e, if_neg (by omega)]
  have h3 := Int.tmod_eq_emod_of_nonneg (b := n) h0
  have h4 := Int.emod_nonneg (IntKind.u64.wrap a) (show n ≠ 0 by omega)
  have h5 := Int.emod_lt_of_pos (IntKind.u64.wrap a) (show 0 < n by omega)
  exact ⟨_, rfl, by rw [h3, wr (by omega) (by omega)]; exact h4, by rw [h3, wr (by omega) (by omega)]; exact h5⟩
theorem next_f (l : List Int) (i n : Int) (hl : l.length ≤ 17592186043904) (h0 : 0 ≤ i) (h1 : 1 ≤ n) (h2 : n ≤ 9223372036854775807) : ∃ r j, railplankeep_Source_Next.f l i n = some (r, j) ∧ 0 ≤ r ∧ r < n ∧ 0 ≤ j := by
  unfold railplankeep_Source_Next.f
  split
  · exact ⟨0, i, rfl, by omega, by omega, h0⟩
  · rename_i h
    have e1 : wrap64 (i + 1) = i + 1 := wr (by omega) (by omega)
    have e2 : wrap64 (i + 1 - 1) = i := by rw [wr (by omega) (by omega)]; omega
    rw [e1, e2, if_pos h0, if_pos (by omega)]
    obtain ⟨r, hr, h3, h4⟩ := pick_f (rd l i) n h1 h2
    rw [hr]
    exact ⟨r, i + 1, rfl, h3, h4, by omega⟩

theorem rd1_tab (n : Nat) (F : Nat → List Int) (i : Int) (h0 : 0 ≤ i) (h : i < n) : rd_L1 (tab n F) i = F i.toNat := by
  unfold rd_L1; exact getD_tab n F [] i.toNat (by omega)
theorem rd1_mat (n m : Nat) (f : Nat → Nat → Int) (i : Int) (h0 : 0 ≤ i) (h : i < n) : rd_L1 (mat n m f) i = tab m (f i.toNat) := rd1_tab n _ i h0 h
theorem row_loop (l : List Int) (hl : l.length ≤ 17592186043904) (n : Nat) (hn : n ≤ 12) (x6 : List (List Int)) (x7 : Int) (h6 : x6.length ≤ 100) (d : Nat) : ∀ (j : Nat) (row : List Int) (i : Int), j + d = n → row.length = n → 0 ≤ i → (∀ b, b < j → en 29 (row.getD b 0)) →
    ∃ row' i', row'.length = n ∧ 0 ≤ i' ∧ (∀ b, b < n → en 29 (row'.getD b 0)) ∧ ∀ r, Ev (fun k => railplankeep2_Matrix.l0 k (n : Int) (x6 ++ [row']) (wrap64 (x7 + 1)) l i') r → Ev (fun k => railplankeep2_Matrix.l1 k (n : Int) x6 x7 row (n : Int) (j : Int) l i) r := by
  induction d with
  | zero =>
    intro j row i hj hr hi hg
    refine ⟨row, i, hr, hi, fun b hb => hg b (by omega), fun r h => ?_⟩
    refine Ev_succ ?_
    simp only [railplankeep2_Matrix.l1]
    simp (disch := omega) only [if_neg, if_pos]
    exact h
  | succ d ih =>
    intro j row i hj hr hi hg
    obtain ⟨r1, j1, e1, a1, b1, hj1⟩ := next_f l i 40 hl hi (by omega) (by omega)
    obtain ⟨r2, j2, e2, a2, b2, hj2⟩ := next_f l j1 3 hl hj1 (by omega) (by omega)
    have hset : ∀ (x : Int), en 29 x → ∀ (rw0 : List Int), rw0.length = n → (∀ b, b < j → en 29 (rw0.getD b 0)) → ∀ b, b < j + 1 → en 29 ((rw0.set j x).getD b 0) := by
      intro x hx rw0 hl0 hg0 b hb
      rw [List.getD_eq_getElem?_getD]
      by_cases e : b = j
      · subst e
        rw [List.getElem?_set_self (by omega)]
        exact hx
      · rw [List.getElem?_set_ne (Ne.symm e), ← List.getD_eq_getElem?_getD]
        exact hg0 b (by omega)
    by_cases hz : r2 = 0
    · obtain ⟨row', i', h1, h2, h3, h4⟩ := ih (j + 1) ((row.set j (r1 - 10)).set j NV) j2 (by omega) (by simp [hr]) hj2 (hset NV (.inl rfl) (row.set j (r1 - 10)) (by simp [hr]) (fun b hb => hset (r1 - 10) (by unfold en; omega) row hr hg b (by omega)))
      refine ⟨row', i', h1, h2, h3, fun r h => ?_⟩
      refine Ev_succ ?_
      simp only [railplankeep2_Matrix.l1, e1, obind, e2]
      simp (disch := omega) only [if_pos, wr, Int.toNat_natCast, List.length_set]
      rw [show (j : Int) + 1 = ((j + 1 : Nat) : Int) by omega]
      exact h4 r h
    · obtain ⟨row', i', h1, h2, h3, h4⟩ := ih (j + 1) (row.set j (r1 - 10)) j2 (by omega) (by simp [hr]) hj2 (fun b hb => hset (r1 - 10) (by unfold en; omega) row hr hg b (by omega))
      refine ⟨row', i', h1, h2, h3, fun r h => ?_⟩
      refine Ev_succ ?_
      simp only [railplankeep2_Matrix.l1, e1, obind, e2]
      simp (disch := omega) only [if_pos, if_neg, wr, Int.toNat_natCast]
      rw [show (j : Int) + 1 = ((j + 1 : Nat) : Int) by omega]
      exact h4 r h
theorem rows_loop (l : List Int) (hl : l.length ≤ 17592186043904) (n : Nat) (hn : n ≤ 12) (d : Nat) : ∀ (a : Nat) (x6 : List (List Int)) (i : Int), a + d = n → x6.length = a → 0 ≤ i → (∀ r ∈ x6, r.length = n ∧ ∀ b, b < n → en 29 (r.getD b 0)) →
    ∃ M, Ev (fun k => railplankeep2_Matrix.l0 k (n : Int) x6 (a : Int) l i) M ∧ M.length = n ∧ ∀ r ∈ M, r.length = n ∧ ∀ b, b < n → en 29 (r.getD b 0) := by
  induction d with
  | zero =>
    intro a x6 i ha h6 hi hg
    refine ⟨x6, ?_, by omega, hg⟩
    refine Ev_succ ?_
    simp only [railplankeep2_Matrix.l0]
    simp (disch := omega) only [if_neg]
    exact Ev.now _
  | succ d ih =>
    intro a x6 i ha h6 hi hg
    obtain ⟨row', i', h1, h2, h3, h4⟩ := row_loop l hl n hn x6 (a : Int) (by omega) n 0 (List.replicate n 0) i (by omega) (by simp) hi (fun b hb => by omega)
    obtain ⟨M, hM, hM2, hM3⟩ := ih (a + 1) (x6 ++ [row']) i' (by omega) (by simp [h6]) h2 (by
      intro r hr
      rcases List.mem_append.1 hr with h | h
      · exact hg r h
      · have := List.mem_singleton.1 h
        subst this
        exact ⟨h1, h3⟩)
    refine ⟨M, ?_, hM2, hM3⟩
    refine Ev_succ ?_
    simp only [railplankeep2_Matrix.l0]
    have hw : ((n : Int)).toNat ≤ 35184372088832 := by omega
    simp only [if_pos (show (a : Int) < (n : Int) by omega), if_pos (show 0 ≤ (n : Int) by omega), if_pos hw, obind]
    simp only [Int.toNat_natCast, List.length_replicate]
    have := h4 M (by
      rw [wr (by omega) (by omega), show (a : Int) + 1 = ((a + 1 : Nat) : Int) by omega]
      exact hM)
    rw [show ((0 : Nat) : Int) = 0 from rfl] at this
    exact this
theorem matrix_made (l : List Int) (hl : l.length ≤ 17592186043904) (n : Nat) (hn : n ≤ 12) : ∃ f, Ev (fun k => railplankeep2_Matrix.f k (n : Int) l) (mat n n f) ∧ bd 29 n n f := by
  obtain ⟨M, hM, h1, h2⟩ := rows_loop l hl n hn n 0 [] 0 (by omega) rfl (by omega) (by simp)
  have e := eq_mat M n n h1 (fun r hr => (h2 r hr).1)
  refine ⟨fun i j => (M.getD i []).getD j 0, ?_, fun i j hi hj => ?_⟩
  · unfold railplankeep2_Matrix.f railplankeep_From.f
    simp only [obind]
    rw [← e]
    rw [show ((0 : Nat) : Int) = 0 from rfl] at hM
    exact hM
  · have hm : M.getD i [] ∈ M := by
      rw [List.getD_eq_getElem?_getD, List.getElem?_eq_getElem (by omega)]
      exact List.getElem_mem _
    exact (h2 _ hm).2 j hj

theorem entry_f (x : Int) (h : en 68719476736 x) : maxplus_entry.f x = some true := by
  unfold en NV at h
  unfold maxplus_entry.f
  by_cases h1 : x = -1125899906842624
  · rw [if_pos h1]
  · rw [if_neg h1, if_pos (by omega), decide_eq_true (by omega)]
theorem vector_loop (n : Nat) (h1 : 1 ≤ n) (hn : n ≤ 12) (f : Nat → Int) (hf : ∀ j, j < n → en 68719476736 (f j)) (d : Nat) : ∀ j : Nat, j + d = n → Ev (fun k => maxplus_Vector.l0 k (n : Int) (tab n f) (tab n f) (n : Int) (j : Int)) true := by
  induction d with
  | zero =>
    intro j hj
    refine Ev_succ ?_
    simp only [maxplus_Vector.l0, length_tab]
    simp (disch := omega) only [if_neg, if_pos]
    rw [decide_eq_true (by omega)]
    exact Ev.now _
  | succ d ih =>
    intro j hj
    refine Ev_succ ?_
    simp only [maxplus_Vector.l0, length_tab]
    simp (disch := omega) only [if_pos, rd_tab, Int.toNat_natCast, wr]
    rw [entry_f _ (hf j (by omega))]
    simp only [obind, if_true]
    rw [show (j : Int) + 1 = ((j + 1 : Nat) : Int) by omega]
    exact ih (j + 1) (by omega)
theorem vector_f (n : Nat) (h1 : 1 ≤ n) (hn : n ≤ 12) (f : Nat → Int) (hf : ∀ j, j < n → en 68719476736 (f j)) : Ev (fun k => maxplus_Vector.f k (n : Int) (tab n f)) true := by
  unfold maxplus_Vector.f
  rw [length_tab]
  exact vector_loop n h1 hn f hf n 0 (by omega)
theorem check_loop (n : Nat) (h1 : 1 ≤ n) (hn : n ≤ 12) (f : Nat → Nat → Int) (hf : bd 68719476736 n n f) (d : Nat) : ∀ i : Nat, i + d = n → Ev (fun k => maxplus_Check.l0 k (mat n n f) (mat n n f) (n : Int) (i : Int)) true := by
  induction d with
  | zero =>
    intro i hi
    refine Ev_succ ?_
    simp only [maxplus_Check.l0, length_mat]
    simp (disch := omega) only [if_neg, if_pos]
    rw [decide_eq_true (by omega)]
    exact Ev.now _
  | succ d ih =>
    intro i hi
    refine Ev_succ ?_
    simp only [maxplus_Check.l0, length_mat]
    simp (disch := omega) only [if_pos, rd1_mat, Int.toNat_natCast, wr]
    refine Ev.bind (vector_f n h1 hn (f i) (fun j hj => hf i j (by omega) hj)) ?_
    simp only [if_true]
    rw [show (i : Int) + 1 = ((i + 1 : Nat) : Int) by omega]
    exact ih (i + 1) (by omega)
theorem check_f (n : Nat) (h1 : 1 ≤ n) (hn : n ≤ 12) (f : Nat → Nat → Int) (hf : bd 68719476736 n n f) : Ev (fun k => maxplus_Check.f k (mat n n f)) true := by
  unfold maxplus_Check.f
  rw [length_mat]
  exact check_loop n h1 hn f hf n 0 (by omega)
theorem fits_loop (n m : Nat) (hn : n ≤ 12) (hm : m ≤ 12) (f : Nat → Nat → Int) (hf : bd 68719476736 n m f) (d : Nat) : ∀ i : Nat, i + d = n → Ev (fun k => maxplus_fits.l0 k (mat n m f) (n : Int) (i : Int)) true := by
  induction d with
  | zero =>
    intro i hi
    refine Ev_succ ?_
    simp only [maxplus_fits.l0]
    simp (disch := omega) only [if_neg]
    exact Ev.now _
  | succ d ih =>
    intro i hi
    refine Ev_succ ?_
    simp only [maxplus_fits.l0, length_mat]
    simp (disch := omega) only [if_pos, rd1_mat, Int.toNat_natCast, length_tab]
    have inner : ∀ e j : Nat, j + e = m → Ev (fun k => maxplus_fits.l1 k (mat n m f) (n : Int) (i : Int) (tab m (f i)) (m : Int) (j : Int)) true := by
      intro e
      induction e with
      | zero =>
        intro j hj
        refine Ev_succ ?_
        simp only [maxplus_fits.l1]
        simp (disch := omega) only [if_neg, wr]
        rw [show (i : Int) + 1 = ((i + 1 : Nat) : Int) by omega]
        exact ih (i + 1) (by omega)
      | succ e ih2 =>
        intro j hj
        refine Ev_succ ?_
        simp only [maxplus_fits.l1, length_tab]
        simp (disch := omega) only [if_pos, rd_tab, Int.toNat_natCast, wr]
        rw [entry_f _ (hf i j (by omega) (by omega))]
        simp only [obind, if_true]
        rw [show (j : Int) + 1 = ((j + 1 : Nat) : Int) by omega]
        exact ih2 (j + 1) (by omega)
    exact inner m 0 (by omega)
theorem fits_f (n m : Nat) (hn : n ≤ 12) (hm : m ≤ 12) (f : Nat → Nat → Int) (hf : bd 68719476736 n m f) : Ev (fun k => maxplus_fits.f k (mat n m f)) true := by
  unfold maxplus_fits.f
  rw [length_mat]
  exact fits_loop n m hn hm f hf n 0 (by omega)
theorem sum_f {A B x y : Int} (hx : en A x) (hy : en B y) (hA : A ≤ 1000000000000000) (hB : B ≤ 1000000000000000) : maxplus_sum.f x y = some (sm x y) := by
  unfold en NV at hx hy
  unfold maxplus_sum.f sm NV
  by_cases h1 : x = -1125899906842624
  · rw [if_pos h1, if_pos h1]
  · rw [if_neg h1, if_neg h1]
    by_cases h2 : y = -1125899906842624
    · rw [if_pos h2, if_pos h2]
    · rw [if_neg h2, if_neg h2, wr (by omega) (by omega)]
theorem matrix_loop (n m : Nat) (hn : n ≤ 12) (hm : m ≤ 12) (d : Nat) : ∀ i : Nat, i + d = n →
    Ev (fun k => maxplus_matrix.l0 k (m : Int) (tab n (fun a => if a < i then tab m (fun _ => NV) else [])) (n : Int) (i : Int)) (mat n m (fun _ _ => NV)) := by
  induction d with
  | zero =>
    intro i hi
    refine Ev_succ ?_
    simp only [maxplus_matrix.l0]
    simp (disch := omega) only [if_neg]
    have e : mat n m (fun _ _ => NV) = tab n (fun a => if a < i then tab m (fun _ => NV) else []) := tab_congr (fun a ha => by rw [if_pos (by omega)])
    rw [e]
    exact Ev.now _
  | succ d ih =>
    intro i hi
    refine Ev_succ ?_
    simp only [maxplus_matrix.l0, length_tab]
    have hw : ((m : Int)).toNat ≤ 35184372088832 := by omega
    simp only [if_pos (show (i : Int) < (n : Int) by omega), if_pos (show 0 ≤ (m : Int) by omega), if_pos hw, if_pos (show 0 ≤ (i : Int) by omega), obind]
    simp only [Int.toNat_natCast]
    rw [replicate_tab, set_tab]
    have inner : ∀ e j : Nat, j + e = m → Ev (fun k => maxplus_matrix.l1 k (m : Int) (tab n (fun a => if a = i then tab m (fun b => if b < j then NV else 0) else if a < i then tab m (fun _ => NV) else [])) (i : Int) (n : Int) (i : Int) (m : Int) (j : Int)) (mat n m (fun _ _ => NV)) := by
      intro e
      induction e with
      | zero =>
        intro j hj
        refine Ev_succ ?_
        simp only [maxplus_matrix.l1]
        simp (disch := omega) only [if_neg, wr]
        rw [show (i : Int) + 1 = ((i + 1 : Nat) : Int) by omega]
        have e : tab n (fun a => if a = i then tab m (fun b => if b < j then NV else 0) else if a < i then tab m (fun _ => NV) else []) = tab n (fun a => if a < i + 1 then tab m (fun _ => NV) else []) := tab_congr (fun a ha => by
          by_cases h1 : a = i
          · rw [if_pos h1, if_pos (by omega)]
            exact tab_congr (fun b hb => if_pos (by omega))
          · rw [if_neg h1]
            by_cases h2 : a < i
            · rw [if_pos h2, if_pos (by omega)]
            · rw [if_neg h2, if_neg (by omega)])
        rw [e]
        exact ih (i + 1) (by omega)
      | succ e ih2 =>
        intro j hj
        refine Ev_succ ?_
        simp only [maxplus_matrix.l1, length_tab]
        simp (disch := omega) only [if_pos, rd1_tab, Int.toNat_natCast, wr, if_true, length_tab]
        rw [set_tab, set_tab, show (j : Int) + 1 = ((j + 1 : Nat) : Int) by omega]
        have e : tab n (fun a => if a = i then tab m (fun b => if b = j then NV else if b < j then NV else 0) else if a = i then tab m (fun b => if b < j then NV else 0) else if a < i then tab m (fun _ => NV) else []) = tab n (fun a => if a = i then tab m (fun b => if b < j + 1 then NV else 0) else if a < i then tab m (fun _ => NV) else []) := tab_congr (fun a ha => by
          by_cases h1 : a = i
          · rw [if_pos h1, if_pos h1]
            refine tab_congr (fun b hb => ?_)
            by_cases h2 : b = j
            · rw [if_pos h2, if_pos (by omega)]
            · rw [if_neg h2]
              by_cases h3 : b < j
              · rw [if_pos h3, if_pos (by omega)]
              · rw [if_neg h3, if_neg (by omega)]
          · rw [if_neg h1, if_neg h1, if_neg h1])
        have e' := ih2 (j + 1) (by omega)
        rw [← e] at e'
        exact e'
    have h0 := inner m 0 (by omega)
    have hlen : ((rd_L1 (tab n (fun a => if a = i then tab m (fun _ => 0) else if a < i then tab m (fun _ => NV) else [])) (i : Int)).length : Int) = (m : Int) := by
      rw [rd1_tab _ _ _ (by omega) (by omega), Int.toNat_natCast, if_pos rfl, length_tab]
    have e0 : tab n (fun a => if a = i then tab m (fun b => if b < 0 then NV else 0) else if a < i then tab m (fun _ => NV) else []) = tab n (fun a => if a = i then tab m (fun _ => 0) else if a < i then tab m (fun _ => NV) else []) := tab_congr (fun a ha => by
      by_cases h1 : a = i
      · rw [if_pos h1, if_pos h1]
        exact tab_congr (fun b hb => if_neg (by omega))
      · rw [if_neg h1, if_neg h1])
    rw [e0, show ((0 : Nat) : Int) = 0 from rfl] at h0
    simp only [if_pos (show (i : Int) < (n : Int) by omega), hlen]
    exact h0
theorem matrix_f (n m : Nat) (hn : n ≤ 12) (hm : m ≤ 12) : Ev (fun k => maxplus_matrix.f k (n : Int) (m : Int)) (mat n m (fun _ _ => NV)) := by
  unfold maxplus_matrix.f
  have hw : ((n : Int)).toNat ≤ 11728124029610 := by omega
  simp only [if_pos (show 0 ≤ (n : Int) by omega), if_pos hw, obind]
  rw [Int.toNat_natCast, replicate_tab, length_tab]
  have h := matrix_loop n m hn hm n 0 (by omega)
  rw [tab_congr (f := fun a => if a < 0 then tab m (fun _ => NV) else []) (g := fun _ => []) (fun a ha => if_neg (by omega)), show ((0 : Nat) : Int) = 0 from rfl] at h
  exact h
section
variable {A B : Int} {n p m : Nat} {f g : Nat → Nat → Int} (hA : A ≤ 1000000000000000) (hB : B ≤ 1000000000000000) (hn : n ≤ 12) (hp0 : 1 ≤ p) (hp : p ≤ 12) (hm : m ≤ 12) (hf : bd A n p f) (hg : bd B p m g)
/-- The product as far as row i, term k, column j. -/
def part (p : Nat) (f g : Nat → Nat → Int) (i k j a b : Nat) : Int := if a < i then mp p f g a b else if a = i then (if b < j then mxr (fun k => sm (f a k) (g k b)) (k + 1) else mxr (fun k => sm (f a k) (g k b)) k) else NV
include hA hB hn hp hm hf hg
theorem product_l2 (i k : Nat) (hi : i < n) (hk : k < p) (r : List (List Int))
    (hr : Ev (fun q => maxplus_product.l1 q (mat p m g) (mat n m (part p f g i (k + 1) 0)) (i : Int) (mat n p f) (n : Int) (i : Int) (tab p (f i)) (p : Int) ((k + 1 : Nat) : Int)) r) (d : Nat) : ∀ j : Nat, j + d = m →
    Ev (fun q => maxplus_product.l2 q (mat p m g) (mat n m (part p f g i k j)) (i : Int) (f i k) (mat n p f) (n : Int) (i : Int) (tab p (f i)) (p : Int) (k : Int) (tab m (g k)) (m : Int) (j : Int)) r := by
  induction d with
  | zero =>
    intro j hj
    refine Ev_succ ?_
    simp only [maxplus_product.l2]
    simp (disch := omega) only [if_neg, wr]
    rw [show (k : Int) + 1 = ((k + 1 : Nat) : Int) by omega]
    have e : mat n m (part p f g i k j) = mat n m (part p f g i (k + 1) 0) := mat_congr (fun a b _ hb => by
      unfold part
      by_cases h1 : a < i
      · rw [if_pos h1, if_pos h1]
      · rw [if_neg h1, if_neg h1]
        by_cases h2 : a = i
        · rw [if_pos h2, if_pos h2, if_pos (by omega), if_neg (by omega)]
        · rw [if_neg h2, if_neg h2])
    rw [e]
    exact hr
  | succ d ih =>
    intro j hj
    refine Ev_succ ?_
    simp only [maxplus_product.l2, length_mat, length_tab]
    simp (disch := omega) only [if_pos, rd1_mat, rd_tab, Int.toNat_natCast, wr, length_tab]
    rw [sum_f (hf i k hi hk) (hg k j hk (by omega)) hA hB]
    simp only [obind]
    rw [set_mat, mx_eq, show (j : Int) + 1 = ((j + 1 : Nat) : Int) by omega]
    have e : mat n m (fun a b => if a = i ∧ b = j then max (part p f g i k j i j) (sm (f i k) (g k j)) else part p f g i k j a b) = mat n m (part p f g i k (j + 1)) := mat_congr (fun a b _ hb => by
      by_cases h1 : a = i
      · subst h1
        by_cases h2 : b = j
        · subst h2
          rw [if_pos ⟨rfl, rfl⟩]
          unfold part
          simp only [Nat.lt_irrefl, if_false, if_true]
          rw [if_pos (by omega)]
          rfl
        · rw [if_neg (fun h => h2 h.2)]
          unfold part
          simp only [Nat.lt_irrefl, if_false, if_true]
          by_cases h3 : b < j
          · rw [if_pos h3, if_pos (by omega)]
          · rw [if_neg h3, if_neg (by omega)]
      · rw [if_neg (fun h => h1 h.1)]
        unfold part
        by_cases h3 : a < i
        · rw [if_pos h3, if_pos h3]
        · rw [if_neg h3, if_neg h3, if_neg h1, if_neg h1])
    rw [e]
    exact ih (j + 1) (by omega)
theorem product_l1 (i : Nat) (hi : i < n) (r : List (List Int))
    (hr : Ev (fun q => maxplus_product.l0 q (mat p m g) (mat n m (part p f g (i + 1) 0 0)) (mat n p f) (n : Int) ((i + 1 : Nat) : Int)) r) (d : Nat) : ∀ k : Nat, k + d = p →
    Ev (fun q => maxplus_product.l1 q (mat p m g) (mat n m (part p f g i k 0)) (i : Int) (mat n p f) (n : Int) (i : Int) (tab p (f i)) (p : Int) (k : Int)) r := by
  induction d with
  | zero =>
    intro k hk
    refine Ev_succ ?_
    simp only [maxplus_product.l1]
    simp (disch := omega) only [if_neg, wr]
    rw [show (i : Int) + 1 = ((i + 1 : Nat) : Int) by omega]
    have e : mat n m (part p f g i k 0) = mat n m (part p f g (i + 1) 0 0) := mat_congr (fun a b _ hb => by
      unfold part
      by_cases h1 : a < i
      · rw [if_pos h1, if_pos (by omega)]
      · rw [if_neg h1]
        by_cases h2 : a = i
        · rw [if_pos h2, if_neg (by omega), if_pos (by omega), show k = p by omega]; rfl
        · rw [if_neg h2, if_neg (by omega)]
          by_cases h3 : a = i + 1
          · rw [if_pos h3, if_neg (by omega)]; rfl
          · rw [if_neg h3])
    rw [e]
    exact hr
  | succ d ih =>
    intro k hk
    refine Ev_succ ?_
    simp only [maxplus_product.l1, length_mat, length_tab]
    simp (disch := omega) only [if_pos, rd1_mat, rd_tab, Int.toNat_natCast, wr, length_tab]
    exact product_l2 hA hB hn hp hm hf hg i k hi (by omega) r (ih (k + 1) (by omega)) m 0 (by omega)
theorem product_l0 (d : Nat) : ∀ i : Nat, i + d = n →
    Ev (fun q => maxplus_product.l0 q (mat p m g) (mat n m (part p f g i 0 0)) (mat n p f) (n : Int) (i : Int)) (mat n m (mp p f g)) := by
  induction d with
  | zero =>
    intro i hi
    refine Ev_succ ?_
    simp only [maxplus_product.l0]
    simp (disch := omega) only [if_neg]
    have e : mat n m (part p f g i 0 0) = mat n m (mp p f g) := mat_congr (fun a b ha hb => by unfold part; rw [if_pos (by omega)])
    rw [e]
    exact Ev.now _
  | succ d ih =>
    intro i hi
    refine Ev_succ ?_
    simp only [maxplus_product.l0, length_mat]
    simp (disch := omega) only [if_pos, rd1_mat, Int.toNat_natCast, length_tab]
    exact product_l1 hA hB hn hp hm hf hg i (by omega) _ (ih (i + 1) (by omega)) p 0 (by omega)
include hp0
theorem product_f : Ev (fun q => maxplus_product.f q (mat n p f) (mat p m g)) (mat n m (mp p f g)) := by
  unfold maxplus_product.f
  simp only [length_mat]
  simp (disch := omega) only [if_pos, rd1_mat, length_tab]
  refine Ev.bind (matrix_f n m hn hm) ?_
  have e : mat n m (fun _ _ => NV) = mat n m (part p f g 0 0 0) := mat_congr (fun a b _ _ => by
    unfold part
    rw [if_neg (by omega)]
    by_cases h : a = 0
    · rw [if_pos h, if_neg (by omega)]; rfl
    · rw [if_neg h])
  rw [e]
  exact product_l0 hA hB hn hp hm hf hg n 0 (by omega)
end
theorem mul_f {A B : Int} {n : Nat} {f g : Nat → Nat → Int} (h1 : 1 ≤ n) (hn : n ≤ 12) (hf : bd A n n f) (hg : bd B n n g) (hA : A ≤ 1000000000) (hB : B ≤ 1000000000) : Ev (fun k => maxplus_Mul.f k (mat n n f) (mat n n g)) (mat n n (mp n f g), 0) := by
  unfold maxplus_Mul.f
  refine Ev.bind (check_f n h1 hn f (bd_mono hf (by omega))) ?_
  simp only [if_true]
  refine Ev.bind (check_f n h1 hn g (bd_mono hg (by omega))) ?_
  simp only [if_true, length_mat, bne_self_eq_false]
  refine Ev_succ ?_
  simp only [maxplus_Mul.j0, Bool.false_eq_true, if_false]
  refine Ev.bind (product_f (by omega) (by omega) hn h1 hn hn hf hg) ?_
  refine Ev.bind (fits_f n n hn hn _ (bd_mono (bd_mp hf hg) (by omega))) ?_
  simp only [if_true]
  exact Ev.now _

theorem same_loop (l : List Int) (hl : l.length ≤ 1000000) (d : Nat) : ∀ i : Nat, i + d = l.length → Ev (fun k => railplankeep_Same_int.l0 k l l (l.length : Int) (i : Int)) true := by
  induction d with
  | zero =>
    intro i hi
    refine Ev_succ ?_
    simp only [railplankeep_Same_int.l0]
    simp (disch := omega) only [if_neg]
    exact Ev.now _
  | succ d ih =>
    intro i hi
    refine Ev_succ ?_
    simp only [railplankeep_Same_int.l0]
    simp (disch := omega) only [if_pos, wr, if_true]
    rw [show (i : Int) + 1 = ((i + 1 : Nat) : Int) by omega]
    exact ih (i + 1) (by omega)
theorem same_f (l : List Int) (hl : l.length ≤ 1000000) : Ev (fun k => railplankeep_Same_int.f k l l) true := by
  unfold railplankeep_Same_int.f
  simp only [if_true]
  exact same_loop l hl l.length 0 (by omega)
theorem samelists_loop (l : List (List Int)) (hl : l.length ≤ 1000000) (hr : ∀ r ∈ l, r.length ≤ 1000000) (d : Nat) : ∀ i : Nat, i + d = l.length → Ev (fun k => railplankeep_SameLists_int.l0 k l l (l.length : Int) (i : Int)) true := by
  induction d with
  | zero =>
    intro i hi
    refine Ev_succ ?_
    simp only [railplankeep_SameLists_int.l0]
    simp (disch := omega) only [if_neg]
    exact Ev.now _
  | succ d ih =>
    intro i hi
    refine Ev_succ ?_
    simp only [railplankeep_SameLists_int.l0]
    simp (disch := omega) only [if_pos, wr]
    refine Ev.bind (same_f _ (hr _ (by
      unfold rd_L1
      rw [List.getD_eq_getElem?_getD, List.getElem?_eq_getElem (by omega)]
      exact List.getElem_mem _))) ?_
    simp only [if_true]
    rw [show (i : Int) + 1 = ((i + 1 : Nat) : Int) by omega]
    exact ih (i + 1) (by omega)
theorem samelists_f (l : List (List Int)) (hl : l.length ≤ 1000000) (hr : ∀ r ∈ l, r.length ≤ 1000000) : Ev (fun k => railplankeep_SameLists_int.f k l l) true := by
  unfold railplankeep_SameLists_int.f
  simp only [if_true]
  exact samelists_loop l hl hr l.length 0 (by omega)
theorem samemat_f (n m : Nat) (hn : n ≤ 12) (hm : m ≤ 12) (f : Nat → Nat → Int) : Ev (fun k => railplankeep_SameLists_int.f k (mat n m f) (mat n m f)) true :=
  samelists_f _ (by rw [length_mat]; omega) (fun r hr => by
    obtain ⟨i, _, rfl⟩ := List.mem_map.1 hr
    rw [length_tab]; omega)

theorem awake_f : Ev (fun k => railplanlaw33_awake.f k) true := Ev.of (fun k => railplanlaw33_awake.mono k) (k := 40) (by decide +kernel)

theorem mulb {a b : Int} (h1 : -1000000 ≤ a) (h2 : a ≤ 1000000) (h3 : 0 ≤ b) (h4 : b ≤ 100) : -100000000 ≤ a * b ∧ a * b ≤ 100000000 := by
  have e1 := Int.mul_le_mul_of_nonneg_right h2 h3
  have e2 := Int.mul_le_mul_of_nonneg_right h1 h3
  omega
theorem best_bd {n : Nat} {f : Nat → Nat → Int} (hn : n ≤ 12) (hf : bd 40 n n f) {K I : Nat} (hK : K ≤ n) {num den : Int} (h : BEST n f (seenw n K I) num den) : -1000000 ≤ num ∧ num ≤ 1000000 ∧ 0 ≤ den ∧ den ≤ 13 := by
  rcases h with ⟨h1, h2, h3⟩ | ⟨h0, ⟨k, i, h1, h2, h3⟩, h4⟩
  · omega
  · unfold seenw at h1
    have := bd40 hf k (by omega) h1.1 h1.1 (by rw [h2]; exact h0)
    omega
theorem gcd_abs (num den : Int) : Int.gcd (max num (-num)) den = Int.gcd num den := by
  rcases Int.le_total 0 num with h | h
  · rw [Int.max_eq_left (by omega)]
  · rw [Int.max_eq_right (by omega), Int.neg_gcd]
theorem Ev.one {α : Type} {g : Nat → Option α} {r s : α} (h1 : Ev g r) (h2 : Ev g s) : r = s := by
  obtain ⟨a, ha⟩ := h1
  obtain ⟨b, hb⟩ := h2
  have e1 := ha (max a b) (by omega)
  have e2 := hb (max a b) (by omega)
  rw [e1] at e2
  exact Option.some.inj e2

theorem pgcd_loop : ∀ (m : Nat) (a b : Int), 0 ≤ a → 0 ≤ b → b ≤ m → Ev (fun k => arith_Gcd.l0 k a b) ((Int.gcd a b : Int), 0) := by
  intro m
  induction m with
  | zero =>
    intro a b ha hb h
    have : b = 0 := by omega
    subst this
    refine Ev_succ ?_
    simp only [arith_Gcd.l0, if_neg (show ¬ (0 : Int) > 0 by omega), Int.gcd_zero]
    rw [show (a.natAbs : Int) = a by omega]
    exact Ev.now _
  | succ m ih =>
    intro a b ha hb h
    refine Ev_succ ?_
    simp only [arith_Gcd.l0]
    by_cases h0 : b > 0
    · simp only [if_pos h0, if_neg (show ¬ b = 0 by omega)]
      have ht : Int.tmod a b = a % b := Int.tmod_eq_emod_of_nonneg ha
      have h5 := Int.emod_nonneg a (show b ≠ 0 by omega)
      have h6 := Int.emod_lt_of_pos a (show 0 < b by omega)
      have hg : Int.gcd b (a % b) = Int.gcd a b := by
        have e : a % b = a + b * -(a / b) := by
          have := Int.mul_ediv_add_emod a b
          rw [Int.mul_neg]; omega
        rw [e, Int.gcd_add_mul_left_right, Int.gcd_comm]
      rw [ht, ← hg]
      exact ih b (a % b) hb h5 (by omega)
    · have : b = 0 := by omega
      subst this
      simp only [if_neg (show ¬ (0 : Int) > 0 by omega), Int.gcd_zero]
      rw [show (a.natAbs : Int) = a by omega]
      exact Ev.now _
theorem pgcd_f (a b : Int) (ha : 0 ≤ a) (hb : 0 ≤ b) : Ev (fun k => arith_Gcd.f k a b) ((Int.gcd a b : Int), 0) := by
  unfold arith_Gcd.f
  simp only [if_neg (show ¬ a < 0 by omega), decide_eq_false (show ¬ b < 0 by omega)]
  refine Ev_succ ?_
  simp only [arith_Gcd.j0, Bool.false_eq_true, if_false]
  exact pgcd_loop b.toNat a b ha hb (by omega)

theorem closed_f (n : Nat) (f : Nat → Nat → Int) (h1 : 1 ≤ n) (hn : n ≤ 12) (hf : bd 40 n n f) : Ev (fun k => maxplus_closed.f k (mat n n f)) (tab (n + 1) (fun a => if a = 0 then 0 else cmax n f (a - 1))) := by
  have l0 : ∀ d K : Nat, K + d = n → Ev (fun k => maxplus_closed.l0 k (mat n n f) (tab (n + 1) (fun a => if a = 0 then 0 else if a ≤ K then cmax n f (a - 1) else 0)) (mat n n (pp n f K)) ((K + 1 : Nat) : Int)) (tab (n + 1) (fun a => if a = 0 then 0 else cmax n f (a - 1))) := by
    intro d
    induction d with
    | zero =>
      intro K hK
      refine Ev_succ ?_
      simp only [maxplus_closed.l0, length_mat, if_neg (show ¬ ((K + 1 : Nat) : Int) ≤ (n : Int) by omega)]
      rw [tab_congr (g := fun a => if a = 0 then 0 else cmax n f (a - 1)) (fun a ha => by
        by_cases h : a = 0
        · rw [if_pos h, if_pos h]
        · rw [if_neg h, if_neg h, if_pos (by omega)])]
      exact Ev.now _
    | succ d ih =>
      intro K hK
      refine Ev_succ ?_
      simp only [maxplus_closed.l0, length_mat, length_tab, if_pos (show ((K + 1 : Nat) : Int) ≤ (n : Int) by omega), if_pos (show (0 : Int) ≤ ((K + 1 : Nat) : Int) by omega), if_pos (show ((K + 1 : Nat) : Int) < ((n + 1 : Nat) : Int) by omega)]
      rw [Int.toNat_natCast, set_tab]
      have l1 : ∀ e I : Nat, I + e = n → Ev (fun k => maxplus_closed.l1 k (mat n n f) (tab (n + 1) (fun a => if a = K + 1 then mxr (fun i => pp n f K i i) I else if a = 0 then 0 else if a ≤ K then cmax n f (a - 1) else 0)) (mat n n (pp n f K)) ((K + 1 : Nat) : Int) (n : Int) (I : Int)) (tab (n + 1) (fun a => if a = 0 then 0 else cmax n f (a - 1))) := by
        intro e
        induction e with
        | zero =>
          intro I hI
          refine Ev_succ ?_
          simp only [maxplus_closed.l1, if_neg (show ¬ (I : Int) < (n : Int) by omega)]
          refine Ev.bind (product_f (A := ((K + 1 : Nat) : Int) * 40) (B := 40) (by omega) (by omega) hn h1 hn hn (bd_pp hf K) hf) ?_
          rw [wr (by omega) (by omega), show ((K + 1 : Nat) : Int) + 1 = ((K + 1 + 1 : Nat) : Int) by omega]
          rw [tab_congr (g := fun a => if a = 0 then 0 else if a ≤ K + 1 then cmax n f (a - 1) else 0) (fun a ha => by
            by_cases h : a = K + 1
            · rw [if_pos h, if_neg (by omega), if_pos (by omega), show I = n by omega, show a - 1 = K by omega]; rfl
            · rw [if_neg h]
              by_cases h0 : a = 0
              · rw [if_pos h0, if_pos h0]
              · rw [if_neg h0, if_neg h0]
                by_cases h2 : a ≤ K
                · rw [if_pos h2, if_pos (by omega)]
                · rw [if_neg h2, if_neg (by omega)])]
          exact ih (K + 1) (by omega)
        | succ e ih2 =>
          intro I hI
          refine Ev_succ ?_
          simp only [maxplus_closed.l1, length_mat, length_tab]
          simp (disch := omega) only [if_pos, rd1_mat, rd_tab, Int.toNat_natCast, length_tab]
          rw [wr (by omega) (by omega), show (I : Int) + 1 = ((I + 1 : Nat) : Int) by omega, set_tab, mx_eq]
          rw [tab_congr (g := fun a => if a = K + 1 then mxr (fun i => pp n f K i i) (I + 1) else if a = 0 then 0 else if a ≤ K then cmax n f (a - 1) else 0) (fun a ha => by
            by_cases h : a = K + 1
            · rw [if_pos h, if_pos h]; simp only [if_true]; rfl
            · rw [if_neg h, if_neg h, if_neg h])]
          exact ih2 (I + 1) (by omega)
      have h := l1 n 0 (by omega)
      exact h
  unfold maxplus_closed.f
  rw [length_mat, wr (by omega) (by omega), show (n : Int) + 1 = ((n + 1 : Nat) : Int) by omega]
  have hw : (((n + 1 : Nat) : Int)).toNat ≤ 35184372088832 := by omega
  simp only [if_pos (show 0 ≤ ((n + 1 : Nat) : Int) by omega), if_pos hw]
  rw [Int.toNat_natCast, replicate_tab]
  have h := l0 n 0 (by omega)
  rw [tab_congr (g := fun _ => (0 : Int)) (fun a ha => by
    by_cases h0 : a = 0
    · rw [if_pos h0]
    · rw [if_neg h0, if_neg (by omega)])] at h
  exact h
theorem pmean_f (n : Nat) (f : Nat → Nat → Int) (h1 : 1 ≤ n) (hn : n ≤ 12) (hf : bd 40 n n f) : ∃ x y ok, Ev (fun k => maxplus_Mean.f k (mat n n f)) (x, y, ok) ∧ MEAN n f x y ok := by
  have bdc : ∀ K, K ≤ 100 → cmax n f K ≠ NV → -1000000 ≤ cmax n f K ∧ cmax n f K ≤ 1000000 := by
    intro K hK h
    rcases mxr_mem (fun i => pp n f K i i) n with e | ⟨I, hI, e⟩
    · exact absurd e h
    · have e' : cmax n f K = pp n f K I I := e
      rw [e'] at h ⊢
      exact bd40 hf K (by omega) hI hI h
  have l0 : ∀ d K : Nat, K + d = n → ∀ num den : Int, BEST n f (seenw n K 0) num den → ∃ x y ok, Ev (fun k => maxplus_Mean.l0 k num den (tab (n + 1) (fun a => if a = 0 then 0 else cmax n f (a - 1))) ((n + 1 : Nat) : Int) ((K + 1 : Nat) : Int)) (x, y, ok) ∧ MEAN n f x y ok := by
    intro d
    induction d with
    | zero =>
      intro K hK num den hB
      have hKn : K = n := by omega
      subst hKn
      by_cases hd : den = 0
      · refine ⟨0, 0, false, ?_, best_no hB hd⟩
        refine Ev_succ ?_
        simp only [maxplus_Mean.l0, if_neg (show ¬ ((K + 1 : Nat) : Int) < ((K + 1 : Nat) : Int) by omega), if_pos hd]
        exact Ev.now _
      · obtain ⟨a1, a2, a3, a4, a5, a6⟩ := best_mean hf hn hB hd
        refine ⟨_, _, _, ?_, a6⟩
        refine Ev_succ ?_
        simp only [maxplus_Mean.l0, if_neg (show ¬ ((K + 1 : Nat) : Int) < ((K + 1 : Nat) : Int) by omega), if_neg hd]
        rw [wr (x := -num) (by omega) (by omega), mx_eq]
        refine Ev.bind (pgcd_f _ _ (by omega) (by omega)) ?_
        simp only [gcd_abs, if_true]
        simp only [if_pos (show (Int.gcd num den : Int) > 0 by omega), if_neg (show ¬ (Int.gcd num den : Int) = 0 by omega)]
        have b1 : 1 ≤ Int.tdiv den (Int.gcd num den) ∧ Int.tdiv den (Int.gcd num den) ≤ K ∧ -1000000 ≤ Int.tdiv num (Int.gcd num den) ∧ Int.tdiv num (Int.gcd num den) ≤ 1000000 := by
          rcases a6 with h | h
          · exact absurd h.1 (by simp)
          · exact ⟨h.2.1, h.2.2.1, h.2.2.2.1, h.2.2.2.2.1⟩
        rw [wr (x := Int.tdiv num (Int.gcd num den)) (by omega) (by omega), wr (x := Int.tdiv den (Int.gcd num den)) (by omega) (by omega)]
        exact Ev.now _
    | succ d ih =>
      intro K hK num den hB
      obtain ⟨b1, b2, b3, b4⟩ := best_bd hn hf (by omega) hB
      have step : ∀ (x y : Int) (ok : Bool) (num' den' : Int), Ev (fun k => maxplus_Mean.l0 k num' den' (tab (n + 1) (fun a => if a = 0 then 0 else cmax n f (a - 1))) ((n + 1 : Nat) : Int) ((K + 1 + 1 : Nat) : Int)) (x, y, ok) →
          (if cmax n f K = NV then (num' = num ∧ den' = den) else if den = 0 then (num' = cmax n f K ∧ den' = ((K + 1 : Nat) : Int)) else if cmax n f K * den > num * ((K + 1 : Nat) : Int) then (num' = cmax n f K ∧ den' = ((K + 1 : Nat) : Int)) else (num' = num ∧ den' = den)) →
          Ev (fun k => maxplus_Mean.l0 k num den (tab (n + 1) (fun a => if a = 0 then 0 else cmax n f (a - 1))) ((n + 1 : Nat) : Int) ((K + 1 : Nat) : Int)) (x, y, ok) := by
        intro x y ok num' den' hE hc
        refine Ev_succ ?_
        simp only [maxplus_Mean.l0, length_tab]
        have hrd : rd (tab (n + 1) (fun a => if a = 0 then 0 else cmax n f (a - 1))) ((K + 1 : Nat) : Int) = cmax n f K := by
          rw [rd_tab _ _ _ (by omega) (by omega), Int.toNat_natCast, if_neg (by omega), show K + 1 - 1 = K by omega]
        rw [hrd]
        simp only [if_pos (show ((K + 1 : Nat) : Int) < ((n + 1 : Nat) : Int) by omega), if_pos (show (0 : Int) ≤ ((K + 1 : Nat) : Int) by omega), if_pos (show ((K + 1 : Nat) : Int) > 0 by omega)]
        rw [wr (x := ((K + 1 : Nat) : Int) + 1) (by omega) (by omega), show ((K + 1 : Nat) : Int) + 1 = ((K + 1 + 1 : Nat) : Int) by omega]
        by_cases c1 : cmax n f K = -1125899906842624
        · rw [if_pos c1] at hc
          simp only [if_pos c1]
          obtain ⟨rfl, rfl⟩ := hc; exact hE
        · rw [if_neg c1] at hc
          simp only [if_neg c1]
          by_cases c2 : den = 0
          · rw [if_pos c2] at hc
            simp only [if_pos c2]
            obtain ⟨rfl, rfl⟩ := hc; exact hE
          · rw [if_neg c2] at hc
            have hb := bdc K (by omega) c1
            have m1 := mulb hb.1 hb.2 b3 (by omega)
            have m2 := mulb b1 b2 (show (0 : Int) ≤ ((K + 1 : Nat) : Int) by omega) (by omega)
            simp only [if_neg c2]
            rw [wr (x := cmax n f K * den) (by omega) (by omega), wr (x := num * ((K + 1 : Nat) : Int)) (by omega) (by omega)]
            by_cases c3 : cmax n f K * den > num * ((K + 1 : Nat) : Int)
            · rw [if_pos c3] at hc
              simp only [if_pos c3]
              obtain ⟨rfl, rfl⟩ := hc; exact hE
            · rw [if_neg c3] at hc
              simp only [if_neg c3]
              obtain ⟨rfl, rfl⟩ := hc; exact hE
      obtain ⟨num', den', hc⟩ : ∃ num' den' : Int, (if cmax n f K = NV then (num' = num ∧ den' = den) else if den = 0 then (num' = cmax n f K ∧ den' = ((K + 1 : Nat) : Int)) else if cmax n f K * den > num * ((K + 1 : Nat) : Int) then (num' = cmax n f K ∧ den' = ((K + 1 : Nat) : Int)) else (num' = num ∧ den' = den)) := by
        by_cases c1 : cmax n f K = NV
        · exact ⟨num, den, by rw [if_pos c1]; exact ⟨rfl, rfl⟩⟩
        · by_cases c2 : den = 0
          · exact ⟨cmax n f K, ((K + 1 : Nat) : Int), by rw [if_neg c1, if_pos c2]; exact ⟨rfl, rfl⟩⟩
          · by_cases c3 : cmax n f K * den > num * ((K + 1 : Nat) : Int)
            · exact ⟨cmax n f K, ((K + 1 : Nat) : Int), by rw [if_neg c1, if_neg c2, if_pos c3]; exact ⟨rfl, rfl⟩⟩
            · exact ⟨num, den, by rw [if_neg c1, if_neg c2, if_neg c3]; exact ⟨rfl, rfl⟩⟩
      obtain ⟨x, y, ok, hE, hM⟩ := ih (K + 1) (by omega) num' den' (best_row hf (by omega) hB hc)
      exact ⟨x, y, ok, step x y ok num' den' hE hc, hM⟩
  obtain ⟨x, y, ok, hE, hM⟩ := l0 n 0 (by omega) 0 0 (best_start n f)
  refine ⟨x, y, ok, ?_, hM⟩
  unfold maxplus_Mean.f
  refine Ev.bind (check_f n h1 hn f (bd_mono hf (by omega))) ?_
  simp only [if_true]
  refine Ev.bind (closed_f n f h1 hn hf) ?_
  rw [length_tab]
  refine Ev_succ ?_
  simp only [maxplus_Mean.l0, length_tab]
  simp only [if_pos (show (0 : Int) < ((n + 1 : Nat) : Int) by omega), if_pos (show (0 : Int) ≤ 0 by omega), if_neg (show ¬ (0 : Int) > 0 by omega)]
  rw [wr (x := (0 : Int) + 1) (by omega) (by omega), show (0 : Int) + 1 = ((0 + 1 : Nat) : Int) by omega]
  exact hE

theorem rdb_tab (n : Nat) (s : Nat → Bool) (i : Nat) (h : i < n) : rdOf false (tab n s) (i : Int) = s i := by
  unfold rdOf; rw [Int.toNat_natCast]; exact getD_tab n s false i h
theorem upd_back (s : Nat → Bool) (j : Nat) (h : s j = false) : upd (upd s j true) j false = s := by
  funext a
  unfold upd
  by_cases e : a = j
  · rw [if_pos e, e, h]
  · rw [if_neg e, if_neg e]
theorem res_bd {n : Nat} {f : Nat → Nat → Int} (hf : bd 40 n n f) {c : Nat} (hc : c < n) {i : Nat} (hi : i < n) {s : Nat → Bool} {Q : Int → Nat → Prop} (hQ : ∀ W m, Q W m → Comp n f c i s W m) {sum : Int} {arcs : Nat} {num den num' den' : Int} (hs : -(40 * (arcs : Int)) ≤ sum ∧ sum ≤ 40 * (arcs : Int)) (hr : arcs + cnt c s n ≤ 20) (hN : -1000 ≤ num ∧ num ≤ 1000 ∧ 0 ≤ den ∧ den ≤ 30) (h : RES Q sum arcs num den num' den') : -1000 ≤ num' ∧ num' ≤ 1000 ∧ 0 ≤ den' ∧ den' ≤ 30 := by
  rcases h.2.2 with ⟨rfl, rfl⟩ | ⟨W, m, h1, rfl, rfl⟩
  · exact hN
  · have := comp_bd hf hc (hQ W m h1) hi
    omega
theorem res_congr {Q Q' : Int → Nat → Prop} {sum : Int} {arcs : Nat} {num den num' den' : Int} (h : ∀ W m, Q W m ↔ Q' W m) (hr : RES Q sum arcs num den num' den') : RES Q' sum arcs num den num' den' := by
  have e : Q = Q' := by funext W m; exact propext (h W m)
  rw [← e]; exact hr
/-- The ways back whose first step goes to j, or to j or a later node. -/
def STEP (n : Nat) (f : Nat → Nat → Int) (c i : Nat) (s : Nat → Bool) (j : Nat) (W : Int) (m : Nat) : Prop :=
  (j = c ∧ f c i ≠ NV ∧ W = f c i ∧ m = 1) ∨ (c < j ∧ s j = false ∧ f j i ≠ NV ∧ ∃ W' m', Comp n f c j (upd s j true) W' m' ∧ W = f j i + W' ∧ m = m' + 1)
def FROM (n : Nat) (f : Nat → Nat → Int) (c i : Nat) (s : Nat → Bool) (j : Nat) (W : Int) (m : Nat) : Prop := ∃ j', j ≤ j' ∧ j' < n ∧ STEP n f c i s j' W m
theorem from_comp {n : Nat} {f : Nat → Nat → Int} {c i : Nat} (hc : c < n) (s : Nat → Bool) (W : Int) (m : Nat) : FROM n f c i s 0 W m ↔ Comp n f c i s W m := by
  constructor
  · rintro ⟨j, _, hj, ⟨rfl, h1, rfl, rfl⟩ | ⟨h1, h2, h3, W', m', h4, rfl, rfl⟩⟩
    · exact Comp.last i s h1
    · exact Comp.more i j s W' m' h1 hj h2 h3 h4
  · intro h
    cases h with
    | last _ _ h1 => exact ⟨c, by omega, hc, .inl ⟨rfl, h1, rfl, rfl⟩⟩
    | more _ j _ W' m' h1 h2 h3 h4 h5 => exact ⟨j, by omega, h2, .inr ⟨h1, h3, h4, W', m', h5, rfl, rfl⟩⟩
section
variable {A : List (List Int)} {c i sum arcs num den x w n j : Int} {S : List Bool} {r : Int × Int × List Bool}
theorem j1_true (h : Ev (fun k => railplanlaw33_walk.l0 k A c i sum arcs S num den n (wrap64 (j + 1))) r) : Ev (fun k => railplanlaw33_walk.j1 k A c i sum arcs S num den x w n j true) r := by
  refine Ev_succ ?_
  simp only [railplanlaw33_walk.j1, if_true]
  exact h
theorem j1_home0 (e1 : x = c) (e2 : den = 0) (h : Ev (fun k => railplanlaw33_walk.l0 k A c i sum arcs S (wrap64 (sum + w)) (wrap64 (arcs + 1)) n (wrap64 (j + 1))) r) : Ev (fun k => railplanlaw33_walk.j1 k A c i sum arcs S num den x w n j false) r := by
  refine Ev_succ ?_
  simp only [railplanlaw33_walk.j1, Bool.false_eq_true, if_false, if_pos e1, if_pos e2]
  exact h
theorem j1_home1 (e1 : x = c) (e2 : ¬ den = 0) (e3 : wrap64 (wrap64 (sum + w) * den) > wrap64 (num * wrap64 (arcs + 1))) (h : Ev (fun k => railplanlaw33_walk.l0 k A c i sum arcs S (wrap64 (sum + w)) (wrap64 (arcs + 1)) n (wrap64 (j + 1))) r) : Ev (fun k => railplanlaw33_walk.j1 k A c i sum arcs S num den x w n j false) r := by
  refine Ev_succ ?_
  simp only [railplanlaw33_walk.j1, Bool.false_eq_true, if_false, if_pos e1, if_neg e2, if_pos e3]
  exact h
theorem j1_home2 (e1 : x = c) (e2 : ¬ den = 0) (e3 : ¬ wrap64 (wrap64 (sum + w) * den) > wrap64 (num * wrap64 (arcs + 1))) (h : Ev (fun k => railplanlaw33_walk.l0 k A c i sum arcs S num den n (wrap64 (j + 1))) r) : Ev (fun k => railplanlaw33_walk.j1 k A c i sum arcs S num den x w n j false) r := by
  refine Ev_succ ?_
  simp only [railplanlaw33_walk.j1, Bool.false_eq_true, if_false, if_pos e1, if_neg e2, if_neg e3]
  exact h
theorem j1_rec {num1 den1 : Int} {S1 : List Bool} (e1 : ¬ x = c) (e2 : 0 ≤ x) (e3 : x < (S.length : Int)) (h1 : Ev (fun k => railplanlaw33_walk.f k A c x (wrap64 (sum + w)) (wrap64 (arcs + 1)) (S.set (x : Int).toNat true) num den) (num1, den1, S1)) (h : Ev (fun k => railplanlaw33_walk.l0 k A c i sum arcs (S1.set (x : Int).toNat false) num1 den1 n (wrap64 (j + 1))) r) : Ev (fun k => railplanlaw33_walk.j1 k A c i sum arcs S num den x w n j false) r := by
  refine Ev_succ ?_
  simp only [railplanlaw33_walk.j1, Bool.false_eq_true, if_false, if_neg e1, if_pos e2, if_pos e3]
  exact Ev.bind h1 h
end
section
variable {n : Nat} {f : Nat → Nat → Int} {c i j arcs : Nat} {sum num den : Int} {s : Nat → Bool} {r : Int × Int × List Bool} (hj : j < n) (hi : i < n)
include hj hi
theorem l0_step (h : Ev (fun k => if f j i = -1125899906842624 then railplanlaw33_walk.j1 k (mat n n f) (c : Int) (i : Int) sum (arcs : Int) (tab n s) num den (j : Int) (f j i) (n : Int) (j : Int) true else if (j : Int) < (c : Int) then railplanlaw33_walk.j1 k (mat n n f) (c : Int) (i : Int) sum (arcs : Int) (tab n s) num den (j : Int) (f j i) (n : Int) (j : Int) true else if s j = true then railplanlaw33_walk.j1 k (mat n n f) (c : Int) (i : Int) sum (arcs : Int) (tab n s) num den (j : Int) (f j i) (n : Int) (j : Int) ((j : Int) != (c : Int)) else railplanlaw33_walk.j1 k (mat n n f) (c : Int) (i : Int) sum (arcs : Int) (tab n s) num den (j : Int) (f j i) (n : Int) (j : Int) false) r) :
    Ev (fun k => railplanlaw33_walk.l0 k (mat n n f) (c : Int) (i : Int) sum (arcs : Int) (tab n s) num den (n : Int) (j : Int)) r := by
  refine Ev_succ ?_
  have e1 : rd_L1 (mat n n f) (j : Int) = tab n (f j) := by rw [rd1_mat n n f (j : Int) (by omega) (by omega)]; simp
  have e2 : rd (tab n (f j)) (i : Int) = f j i := by rw [rd_tab n (f j) (i : Int) (by omega) (by omega)]; simp
  have e3 := rdb_tab n s j hj
  simp only [railplanlaw33_walk.l0, length_mat, e1, e2, length_tab, e3, if_pos (show (j : Int) < (n : Int) by omega), if_pos (show (0 : Int) ≤ (j : Int) by omega), if_pos (show (i : Int) < (n : Int) by omega), if_pos (show (0 : Int) ≤ (i : Int) by omega)]
  exact h
theorem l0_nv (e : f j i = -1125899906842624) (h : Ev (fun k => railplanlaw33_walk.j1 k (mat n n f) (c : Int) (i : Int) sum (arcs : Int) (tab n s) num den (j : Int) (f j i) (n : Int) (j : Int) true) r) : Ev (fun k => railplanlaw33_walk.l0 k (mat n n f) (c : Int) (i : Int) sum (arcs : Int) (tab n s) num den (n : Int) (j : Int)) r :=
  l0_step hj hi (by simp only [if_pos e]; exact h)
theorem l0_lt (e : ¬ f j i = -1125899906842624) (e2 : j < c) (h : Ev (fun k => railplanlaw33_walk.j1 k (mat n n f) (c : Int) (i : Int) sum (arcs : Int) (tab n s) num den (j : Int) (f j i) (n : Int) (j : Int) true) r) : Ev (fun k => railplanlaw33_walk.l0 k (mat n n f) (c : Int) (i : Int) sum (arcs : Int) (tab n s) num den (n : Int) (j : Int)) r :=
  l0_step hj hi (by simp only [if_neg e, if_pos (show (j : Int) < (c : Int) by omega)]; exact h)
theorem l0_seen (e : ¬ f j i = -1125899906842624) (e2 : ¬ j < c) (e3 : s j = true) (h : Ev (fun k => railplanlaw33_walk.j1 k (mat n n f) (c : Int) (i : Int) sum (arcs : Int) (tab n s) num den (j : Int) (f j i) (n : Int) (j : Int) ((j : Int) != (c : Int))) r) : Ev (fun k => railplanlaw33_walk.l0 k (mat n n f) (c : Int) (i : Int) sum (arcs : Int) (tab n s) num den (n : Int) (j : Int)) r :=
  l0_step hj hi (by simp only [if_neg e, if_neg (show ¬ (j : Int) < (c : Int) by omega), e3, if_true]; exact h)
theorem l0_go (e : ¬ f j i = -1125899906842624) (e2 : ¬ j < c) (e3 : s j = false) (h : Ev (fun k => railplanlaw33_walk.j1 k (mat n n f) (c : Int) (i : Int) sum (arcs : Int) (tab n s) num den (j : Int) (f j i) (n : Int) (j : Int) false) r) : Ev (fun k => railplanlaw33_walk.l0 k (mat n n f) (c : Int) (i : Int) sum (arcs : Int) (tab n s) num den (n : Int) (j : Int)) r :=
  l0_step hj hi (by simp only [if_neg e, if_neg (show ¬ (j : Int) < (c : Int) by omega), e3, Bool.false_eq_true, if_false]; exact h)
end
theorem walk_f {n : Nat} {f : Nat → Nat → Int} (hn : n ≤ 12) (hf : bd 40 n n f) {c : Nat} (hc : c < n) (C : Nat) : ∀ (i : Nat) (s : Nat → Bool) (sum : Int) (arcs : Nat) (num den : Int), cnt c s n < C → i < n → s c = false → (-(40 * (arcs : Int)) ≤ sum ∧ sum ≤ 40 * (arcs : Int)) → arcs + cnt c s n ≤ 20 → (-1000 ≤ num ∧ num ≤ 1000 ∧ 0 ≤ den ∧ den ≤ 30) →
    ∃ num' den', Ev (fun k => railplanlaw33_walk.f k (mat n n f) (c : Int) (i : Int) sum (arcs : Int) (tab n s) num den) (num', den', tab n s) ∧ RES (Comp n f c i s) sum arcs num den num' den' := by
  induction C with
  | zero => intro i s sum arcs num den hC; omega
  | succ C ih =>
    intro i s sum arcs num den hC hi hsc hs hr hN
    have lp : ∀ d j : Nat, j + d = n → ∀ num den : Int, (-1000 ≤ num ∧ num ≤ 1000 ∧ 0 ≤ den ∧ den ≤ 30) → ∃ num' den', Ev (fun k => railplanlaw33_walk.l0 k (mat n n f) (c : Int) (i : Int) sum (arcs : Int) (tab n s) num den (n : Int) (j : Int)) (num', den', tab n s) ∧ RES (FROM n f c i s j) sum arcs num den num' den' := by
      intro d
      induction d with
      | zero =>
        intro j hj num den hN
        refine ⟨num, den, ?_, res_none sum arcs num den hN.2.2.1 _ (fun W m ⟨j', a, b, _⟩ => by omega)⟩
        refine Ev_succ ?_
        simp only [railplanlaw33_walk.l0, if_neg (show ¬ (j : Int) < (n : Int) by omega)]
        exact Ev.now _
      | succ d ih2 =>
        intro j hj num den hN
        have hsplit : ∀ W m, FROM n f c i s j W m ↔ STEP n f c i s j W m ∨ FROM n f c i s (j + 1) W m := by
          intro W m
          constructor
          · rintro ⟨j', a, b, h⟩
            rcases Nat.eq_or_lt_of_le a with e | e
            · subst e; exact .inl h
            · exact .inr ⟨j', e, b, h⟩
          · rintro (h | ⟨j', a, b, h⟩)
            · exact ⟨j, Nat.le_refl _, by omega, h⟩
            · exact ⟨j', by omega, b, h⟩
        have hp : ∀ W m, STEP n f c i s j W m → 1 ≤ arcs + m := by
          rintro W m (⟨_, _, _, rfl⟩ | ⟨_, _, _, W', m', _, _, rfl⟩) <;> omega
        have nxt : Aside0 (wrap64 ((j : Int) + 1) = ((j + 1 : Nat) : Int)) := ⟨by rw [wr (by omega) (by omega)]; omega⟩
        have skip : (∀ W m, ¬ STEP n f c i s j W m) → (∀ r, Ev (fun k => railplanlaw33_walk.j1 k (mat n n f) (c : Int) (i : Int) sum (arcs : Int) (tab n s) num den (j : Int) (f j i) (n : Int) (j : Int) true) r → Ev (fun k => railplanlaw33_walk.l0 k (mat n n f) (c : Int) (i : Int) sum (arcs : Int) (tab n s) num den (n : Int) (j : Int)) r) →
            ∃ num' den', Ev (fun k => railplanlaw33_walk.l0 k (mat n n f) (c : Int) (i : Int) sum (arcs : Int) (tab n s) num den (n : Int) (j : Int)) (num', den', tab n s) ∧ RES (FROM n f c i s j) sum arcs num den num' den' := by
          intro hno hgo
          obtain ⟨num', den', h1, h2⟩ := ih2 (j + 1) (by omega) num den hN
          exact ⟨num', den', hgo _ (j1_true (by rw [nxt.out]; exact h1)), res_comp hN.2.2.1 hp (res_none sum arcs num den hN.2.2.1 _ hno) h2 hsplit⟩
        by_cases c1 : f j i = -1125899906842624
        · refine skip ?_ ?_
          · rintro W m (⟨rfl, h, _⟩ | ⟨_, _, h, _⟩) <;> exact h c1
          · exact fun r h => l0_nv (by omega) hi c1 h
        · have hw := en_ne (hf j i (by omega) hi) c1
          by_cases c2 : j < c
          · refine skip ?_ ?_
            · rintro W m (⟨e, _⟩ | ⟨h, _⟩)
              · exact absurd c2 (by rw [e]; exact Nat.lt_irrefl _)
              · exact absurd c2 (Nat.lt_asymm h)
            · exact fun r h => l0_lt (by omega) hi c1 c2 h
          · by_cases c3 : s j = true
            · have hjc : j ≠ c := by intro e; rw [e, hsc] at c3; exact absurd c3 (by simp)
              refine skip ?_ ?_
              · rintro W m (⟨rfl, _⟩ | ⟨_, h, _⟩)
                · exact hjc rfl
                · rw [c3] at h; exact absurd h (by simp)
              · exact fun r h => l0_seen (by omega) hi c1 c2 c3 (by rw [show ((j : Int) != (c : Int)) = true by rw [bne_iff_ne]; omega]; exact h)
            · have c3' : s j = false := by simpa using c3
              have go : ∀ r, Ev (fun k => railplanlaw33_walk.j1 k (mat n n f) (c : Int) (i : Int) sum (arcs : Int) (tab n s) num den (j : Int) (f j i) (n : Int) (j : Int) false) r → Ev (fun k => railplanlaw33_walk.l0 k (mat n n f) (c : Int) (i : Int) sum (arcs : Int) (tab n s) num den (n : Int) (j : Int)) r := by
                exact fun r h => l0_go (by omega) hi c1 c2 c3' h
              have e1 : Aside0 (wrap64 (sum + f j i) = sum + f j i) := ⟨wr (by omega) (by omega)⟩
              have e2 : Aside0 (wrap64 ((arcs : Int) + 1) = ((arcs + 1 : Nat) : Int)) := ⟨by rw [wr (by omega) (by omega)]; omega⟩
              by_cases c4 : j = c
              · subst c4
                have hstep : ∀ W m, (W = f j i ∧ m = 1) ↔ STEP n f j i s j W m := by
                  intro W m
                  constructor
                  · rintro ⟨rfl, rfl⟩; exact .inl ⟨rfl, c1, rfl, rfl⟩
                  · rintro (⟨_, _, h1, h2⟩ | ⟨h, _⟩)
                    · exact ⟨h1, h2⟩
                    · omega
                have fin : ∀ num1 den1 : Int, (if den = 0 then (num1 = sum + f j i ∧ den1 = ((arcs + 1 : Nat) : Int)) else if (sum + f j i) * den > num * ((arcs + 1 : Nat) : Int) then (num1 = sum + f j i ∧ den1 = ((arcs + 1 : Nat) : Int)) else (num1 = num ∧ den1 = den)) →
                    (∀ r, Ev (fun k => railplanlaw33_walk.l0 k (mat n n f) (j : Int) (i : Int) sum (arcs : Int) (tab n s) num1 den1 (n : Int) ((j + 1 : Nat) : Int)) r → Ev (fun k => railplanlaw33_walk.j1 k (mat n n f) (j : Int) (i : Int) sum (arcs : Int) (tab n s) num den (j : Int) (f j i) (n : Int) (j : Int) false) r) →
                    ∃ num' den', Ev (fun k => railplanlaw33_walk.l0 k (mat n n f) (j : Int) (i : Int) sum (arcs : Int) (tab n s) num den (n : Int) (j : Int)) (num', den', tab n s) ∧ RES (FROM n f j i s j) sum arcs num den num' den' := by
                  intro num1 den1 hc1 hgo
                  have hR := res_last (w := f j i) hN.2.2.1 hc1
                  have hb : -1000 ≤ num1 ∧ num1 ≤ 1000 ∧ 0 ≤ den1 ∧ den1 ≤ 30 := by
                    rcases hR.2.2 with ⟨rfl, rfl⟩ | ⟨W, m, ⟨rfl, rfl⟩, rfl, rfl⟩
                    · exact hN
                    · omega
                  obtain ⟨num', den', h1, h2⟩ := ih2 (j + 1) (by omega) num1 den1 hb
                  exact ⟨num', den', go _ (hgo _ h1), res_comp hN.2.2.1 hp (res_congr hstep hR) h2 hsplit⟩
                by_cases d1 : den = 0
                · exact fin (sum + f j i) ((arcs + 1 : Nat) : Int) (by rw [if_pos d1]; exact ⟨rfl, rfl⟩) (fun r h => j1_home0 rfl d1 (by rw [nxt.out, e1.out, e2.out]; exact h))
                · have m1 := mulb (a := sum + f j i) (b := den) (by omega) (by omega) (by omega) (by omega)
                  have m2 := mulb (a := num) (b := ((arcs + 1 : Nat) : Int)) (by omega) (by omega) (by omega) (by omega)
                  have e3 : Aside0 (wrap64 (wrap64 (sum + f j i) * den) = (sum + f j i) * den) := ⟨by rw [e1.out]; exact wr (by omega) (by omega)⟩
                  have e4 : Aside0 (wrap64 (num * wrap64 ((arcs : Int) + 1)) = num * ((arcs + 1 : Nat) : Int)) := ⟨by rw [e2.out]; exact wr (by omega) (by omega)⟩
                  by_cases d2 : (sum + f j i) * den > num * ((arcs + 1 : Nat) : Int)
                  · exact fin (sum + f j i) ((arcs + 1 : Nat) : Int) (by rw [if_neg d1, if_pos d2]; exact ⟨rfl, rfl⟩) (fun r h => j1_home1 rfl d1 (by rw [e3.out, e4.out]; exact d2) (by rw [nxt.out, e1.out, e2.out]; exact h))
                  · exact fin num den (by rw [if_neg d1, if_neg d2]; exact ⟨rfl, rfl⟩) (fun r h => j1_home2 rfl d1 (by rw [e3.out, e4.out]; exact d2) (by rw [nxt.out]; exact h))
              · have hcnt := cnt_upd c s j (by omega) c3' n (by omega)
                have hsc2 : upd s j true c = false := by unfold upd; rw [if_neg (Ne.symm c4)]; exact hsc
                obtain ⟨num1, den1, h1, h2⟩ := ih j (upd s j true) (sum + f j i) (arcs + 1) num den (by omega) (by omega) hsc2 (by omega) (by omega) hN
                have hb := res_bd hf hc (show j < n by omega) (s := upd s j true) (fun W m h => h) (by omega) (by omega) hN h2
                obtain ⟨num', den', h3, h4⟩ := ih2 (j + 1) (by omega) num1 den1 hb
                have hstep : ∀ W m, (∃ W' m', Comp n f c j (upd s j true) W' m' ∧ W = f j i + W' ∧ m = m' + 1) ↔ STEP n f c i s j W m := by
                  intro W m
                  constructor
                  · intro h; exact .inr ⟨by omega, c3', c1, h⟩
                  · rintro (⟨h, _⟩ | ⟨_, _, _, h⟩)
                    · exact absurd h c4
                    · exact h
                have eb : (fun a => if a = j then false else upd s j true a) = s := upd_back s j c3'
                refine ⟨num', den', go _ (j1_rec (S1 := tab n (upd s j true)) (by omega) (by omega) (by rw [length_tab]; omega) (by rw [e1.out, e2.out, Int.toNat_natCast, set_tab]; exact h1) ?_), res_comp hN.2.2.1 hp (res_congr hstep (res_child h2)) h4 hsplit⟩
                rw [nxt.out, Int.toNat_natCast, set_tab, eb]
                exact h3
    obtain ⟨num', den', h1, h2⟩ := lp n 0 (by omega) num den hN
    refine ⟨num', den', ?_, res_congr (from_comp hc s) h2⟩
    refine Ev_succ ?_
    simp only [railplanlaw33_walk.f, length_mat]
    exact h1

theorem cyc_last (x y : Int) (hy : 1 ≤ y) (hy2 : y ≤ 100) (hx1 : -1000000 ≤ x) (hx2 : x ≤ 1000000) (hg : Int.gcd x y = 1) : Ev (fun k => railplanlaw33_MaxplusCycles.l1 k x y 2) true := by
  have lp : ∀ d j : Nat, (j : Int) + d = y + 1 → 2 ≤ j → Ev (fun k => railplanlaw33_MaxplusCycles.l1 k x y (j : Int)) true := by
    intro d
    induction d with
    | zero =>
      intro j hj _
      refine Ev_succ ?_
      simp only [railplanlaw33_MaxplusCycles.l1, if_neg (show ¬ (j : Int) ≤ y by omega)]
      refine Ev.bind awake_f ?_
      exact Ev.now _
    | succ d ih =>
      intro j hj h2
      have h := ih (j + 1) (by omega) (by omega)
      refine Ev_succ ?_
      simp only [railplanlaw33_MaxplusCycles.l1, if_pos (show (j : Int) ≤ y by omega), if_neg (show ¬ (j : Int) = 0 by omega)]
      rw [wr (by omega) (by omega), show (j : Int) + 1 = ((j + 1 : Nat) : Int) by omega]
      by_cases c1 : Int.tmod y (j : Int) = 0
      · by_cases c2 : Int.tmod x (j : Int) = 0
        · exfalso
          have d1 : (j : Int) ∣ y := Int.dvd_of_tmod_eq_zero c1
          have d2 : (j : Int) ∣ x := Int.dvd_of_tmod_eq_zero c2
          have d3 := Int.dvd_coe_gcd d2 d1
          rw [hg] at d3
          have := Int.le_of_dvd (by omega) d3
          omega
        · simp only [if_pos c1, if_neg c2]; exact h
      · simp only [if_neg c1]; exact h
  by_cases h : 2 ≤ y
  · exact lp (y - 1).toNat 2 (by omega) (by omega)
  · refine Ev_succ ?_
    simp only [railplanlaw33_MaxplusCycles.l1, if_neg (show ¬ (2 : Int) ≤ y by omega)]
    refine Ev.bind awake_f ?_
    exact Ev.now _
/-- All ways back to their least node, from the nodes before i. -/
def UPTO (n : Nat) (f : Nat → Nat → Int) (i : Nat) (W : Int) (m : Nat) : Prop := ∃ c, c < i ∧ c < n ∧ Comp n f c c (fun _ => false) W m
theorem cyc_end (n : Nat) (h1 : 1 ≤ n) (hn : n ≤ 12) (f : Nat → Nat → Int) (hf : bd 40 n n f) (num den : Int) (hN : -1000 ≤ num ∧ num ≤ 1000 ∧ 0 ≤ den ∧ den ≤ 30) (hR : RES (UPTO n f n) 0 0 0 0 num den) :
    Ev (fun k => railplanlaw33_MaxplusCycles.l0 k (mat n n f) num den (n : Int) (n : Int)) true := by
  obtain ⟨x, y, ok, hE, hM⟩ := pmean_f n f h1 hn hf
  obtain ⟨_, hdom, hsnd⟩ := hR
  have dom : ∀ c W m, c < n → Comp n f c c (fun _ => false) W m → 0 < den ∧ W * den ≤ num * (m : Int) := by
    intro c W m hc h
    have := hdom W m ⟨c, hc, hc, h⟩
    rw [show (0 : Int) + W = W by omega, show 0 + m = m by omega] at this
    exact this
  have clo : ∀ k i, k < n → i < n → pp n f k i i ≠ NV → 0 < den ∧ pp n f k i i * den ≤ num * ((k + 1 : Nat) : Int) := by
    intro k i hk hi hne
    obtain ⟨v, v0, v1, vn, va, vw⟩ := path k i i hi hi hne
    have := all_closed num den dom (k + 1) (k + 1) (Nat.le_refl _) v ⟨by omega, by rw [v0, v1], vn, va⟩
    rw [← vw] at this
    exact this
  refine Ev_succ ?_
  simp only [railplanlaw33_MaxplusCycles.l0, if_neg (show ¬ (n : Int) < (n : Int) by omega)]
  refine Ev.bind hE ?_
  by_cases hd : den = 0
  · simp only [if_pos hd]
    refine Ev.bind awake_f ?_
    rcases hM with ⟨rfl, rfl, rfl, _⟩ | ⟨_, _, _, _, _, _, ⟨k, i, hk, hi, hne, _⟩, _⟩
    · simp only [if_true, Bool.false_eq_true, if_false]
      exact Ev.now _
    · have := (clo k i hk hi hne).1
      omega
  · simp only [if_neg hd]
    obtain ⟨W, m, ⟨c, _, hc, hC⟩, e1, e2⟩ : ∃ W m, UPTO n f n W m ∧ num = 0 + W ∧ den = ((0 + m : Nat) : Int) := by
      rcases hsnd with ⟨_, h⟩ | h
      · exact absurd h hd
      · exact h
    obtain ⟨p1, p2⟩ := comp_pp hf hc (by omega) hC hc
    obtain ⟨q1, q2, q3, q4⟩ := comp_bd hf hc hC hc
    have q5 := cnt_le c (fun _ => false) n
    rcases hM with ⟨_, _, _, hno⟩ | ⟨rfl, b1, b2, b3, b4, b5, ⟨k, i, hk, hi, hne, hat⟩, hall⟩
    · exact absurd (hno (m - 1) c (by omega) hc) p1
    · have hle : num * y ≤ x * den := by
        have a := hall (m - 1) c (by omega) hc p1
        rw [show m - 1 + 1 = m by omega] at a
        have b := Int.mul_le_mul_of_nonneg_right p2 (show 0 ≤ y by omega)
        rw [e1, e2, show (0 : Int) + W = W by omega, show 0 + m = m by omega]
        omega
      have hge : x * den ≤ num * y := by
        have a := (clo k i hk hi hne).2
        have b := Int.mul_le_mul_of_nonneg_right a (show 0 ≤ y by omega)
        refine Int.le_of_mul_le_mul_right (a := ((k + 1 : Nat) : Int)) ?_ (by omega)
        have g1 : x * den * ((k + 1 : Nat) : Int) = pp n f k i i * y * den := by rw [hat]; grind
        have g2 : num * y * ((k + 1 : Nat) : Int) = num * ((k + 1 : Nat) : Int) * y := by grind
        have g3 : pp n f k i i * den * y = pp n f k i i * y * den := by grind
        omega
      have m1 := mulb (a := x) (b := den) (by omega) (by omega) (by omega) (by omega)
      have m2 := mulb (a := num) (b := y) (by omega) (by omega) (by omega) (by omega)
      simp only [if_true, if_neg (show ¬ y < 1 by omega)]
      rw [wr (x := x * den) (by omega) (by omega), wr (x := num * y) (by omega) (by omega), show x * den = num * y by omega]
      refine Ev_succ ?_
      simp only [railplanlaw33_MaxplusCycles.j1, bne_self_eq_false, Bool.false_eq_true, if_false]
      exact cyc_last x y b1 (by omega) b3 b4 b5
theorem MaxplusCycles : railplanlaw33_MaxplusCycles.Pure := by
  intro a0 l1 _ hl1 _ _
  obtain ⟨p, hp, p0, p1⟩ := pick_f a0 4 (by omega) (by omega)
  obtain ⟨n, hn⟩ : ∃ n : Nat, 1 + p = (n : Int) := ⟨(1 + p).toNat, by omega⟩
  obtain ⟨f, hfm, bf⟩ := matrix_made l1 (by unfold maxLen at hl1; omega) n (by omega)
  have hf : bd 40 n n f := bd_mono bf (by omega)
  have lp : ∀ d i : Nat, i + d = n → ∀ num den : Int, (-1000 ≤ num ∧ num ≤ 1000 ∧ 0 ≤ den ∧ den ≤ 30) → RES (UPTO n f i) 0 0 0 0 num den → Ev (fun k => railplanlaw33_MaxplusCycles.l0 k (mat n n f) num den (n : Int) (i : Int)) true := by
    intro d
    induction d with
    | zero =>
      intro i hi num den hN hR
      have hin : i = n := by omega
      subst hin
      exact cyc_end i (by omega) (by omega) f hf num den hN hR
    | succ d ih =>
      intro i hi num den hN hR
      have hc : i < n := by omega
      have hcnt := cnt_le i (fun _ => false) n
      obtain ⟨num', den', h1, h2⟩ := walk_f (show n ≤ 12 by omega) hf hc 100 i (fun _ => false) 0 0 num den (by omega) hc rfl (by omega) (by omega) hN
      have hb := res_bd hf hc hc (s := fun _ => false) (fun W m h => h) (by omega) (by omega) hN h2
      have h3 := ih (i + 1) (by omega) num' den' hb (res_comp (Int.le_refl 0) (fun W m ⟨c, _, h, hC⟩ => by have := (comp_bd hf h hC h).1; omega) hR h2 (fun W m => by
        unfold UPTO
        constructor
        · rintro ⟨c, a, b, h⟩
          rcases Nat.lt_or_ge c i with e | e
          · exact .inl ⟨c, e, b, h⟩
          · have : c = i := by omega
            subst this
            exact .inr h
        · rintro (⟨c, a, b, h⟩ | h)
          · exact ⟨c, by omega, b, h⟩
          · exact ⟨i, by omega, hc, h⟩))
      refine Ev_succ ?_
      simp only [railplanlaw33_MaxplusCycles.l0, length_mat, if_pos (show (i : Int) < (n : Int) by omega)]
      have hw : ((n : Int)).toNat ≤ 281474976710656 := by omega
      simp only [if_pos (show 0 ≤ (n : Int) by omega), if_pos hw]
      rw [Int.toNat_natCast, replicate_tab]
      refine Ev.bind h1 ?_
      rw [wr (by omega) (by omega), show (i : Int) + 1 = ((i + 1 : Nat) : Int) by omega]
      exact h3
  refine Ev.rounds ?_
  unfold railplanlaw33_MaxplusCycles.f
  rw [hp]
  simp only [obind]
  rw [wr (x := 1 + p) (by omega) (by omega), hn]
  refine Ev.bind hfm ?_
  rw [length_mat]
  exact lp n 0 (by omega) 0 0 (by omega) (res_none 0 0 0 0 (by omega) _ (fun W m ⟨c, h, _⟩ => by omega))

end Go.Proofs.Ytnmhdeibjglhcaa.Pure
