/- Power is additive; for all arguments. -/
import Derived.Test.YtnmhdeibjglhcaaXMaxplusPowerx8
import Derived.Test.YtnmhdeibjglhcaaMpMath
import Derived.OpenShut
set_option linter.unusedVariables false
set_option linter.unusedSimpArgs false
set_option linter.unusedSectionVars false
namespace Go.Proofs.Ytnmhdeibjglhcaa.Pure
open Go.RowKit Go.Proofs.Ytnmhdeibjglhcaa.XMaxplusPower Go.Proofs.YtnmhdeibjglhcaaW.PrintWords Go.Proofs.YtnmhdeibjglhcaaW.PrintLast Go.Proofs.YtnmhdeibjglhcaaW.PrintMore Go.Proofs.Ytnmhdeibjglhcaa.MpMath

/-- Not by sight: the kernel is not to look into what is bound. -/
theorem obind {α β : Type} (a : α) (f : α → Option β) : (some a).bind f = f a := by cases h : f a <;> simp [h]
theorem wr {x : Int} (h1 : -9223372036854775808 ≤ x) (h2 : x ≤ 9223372036854775807) : wrap64 x = x := by unfold wrap64; omega
theorem Ev_succ {α : Type} {g : Nat → Option α} {r : α} (h : Ev (fun k => g (k + 1)) r) : Ev g r := Ev.step (fun _ => rfl) h
theorem mn_eq (a b : Int) : mn a b = min a b := by unfold mn; omega
theorem mx_eq (a b : Int) : mx a b = max a b := by unfold mx; omega
theorem rd_tab (n : Nat) (f : Nat → Int) (i : Int) (h0 : 0 ≤ i) (h : i < n) : rd (tab n f) i = f i.toNat := by
  unfold rd; exact getD_tab n f 0 i.toNat (by omega)
theorem uwrap (n : Int) : IntKind.u64.wrap n = n % 18446744073709551616 := by
  unfold IntKind.wrap
  simp only [IntKind.signed, IntKind.bits, Bool.false_and, Bool.false_eq_true, if_false]
  rfl

theorem pick_f (a n : Int) (h1 : 1 ≤ n) (h2 : n ≤ 9223372036854775807) : ∃ r, railplankeep_Pick.f a n = some r ∧ 0 ≤ r ∧ r < n := by
  unfold railplankeep_Pick.f
  have e : IntKind.u64.wrap n = n := by rw [uwrap]; omega
  have h0 : 0 ≤ IntKind.u64.wrap a := by rw [uwrap]; omega
  rw [e, if_neg (by omega)]
  have h3 := Int.tmod_eq_emod_of_nonneg (b := n) h0
  have h4 := Int.emod_nonneg (IntKind.u64.wrap a) (show n ≠ 0 by omega)
  have h5 := Int.emod_lt_of_pos (IntKind.u64.wrap a) (show 0 < n by omega)
  exact ⟨_, rfl, by rw [h3, wr (by omega) (by omega)]; exact h4, by rw [h3, wr (by omega) (by omega)]; exact h5⟩
theorem next_f (l : List Int) (i n : Int) (hl : l.length ≤ 17592186043904) (h0 : 0 ≤ i) (h1 : 1 ≤ n) (h2 : n ≤ 9223372036854775807) : ∃ r j, railplankeep_Source_Next.f l i n = some (r, j) ∧ 0 ≤ r ∧ r < n ∧ 0 ≤ j := by
  unfold railplankeep_Source_Next.f
  split
  · exact ⟨0, i, rfl, by omega, by omega, h0⟩
  · rename_i h
    have e1 : wrap64 (i + 1) = i + 1 := wr (by omega) (by omega)
    have e2 : wrap64 (i + 1 - 1) = i := by rw [wr (by omega) (by omega)]; omega
    rw [e1, e2, if_pos h0, if_pos (by omega)]
    obtain ⟨r, hr, h3, h4⟩ := pick_f (rd l i) n h1 h2
    rw [hr]
    exact ⟨r, i + 1, rfl, h3, h4, by omega⟩

theorem rd1_tab (n : Nat) (F : Nat → List Int) (i : Int) (h0 : 0 ≤ i) (h : i < n) : rd_L1 (tab n F) i = F i.toNat := by
  unfold rd_L1; exact getD_tab n F [] i.toNat (by omega)
theorem rd1_mat (n m : Nat) (f : Nat → Nat → Int) (i : Int) (h0 : 0 ≤ i) (h : i < n) : rd_L1 (mat n m f) i = tab m (f i.toNat) := rd1_tab n _ i h0 h
theorem row_loop (l : List Int) (hl : l.length ≤ 17592186043904) (n : Nat) (hn : n ≤ 12) (x6 : List (List Int)) (x7 : Int) (h6 : x6.length ≤ 100) (d : Nat) : ∀ (j : Nat) (row : List Int) (i : Int), j + d = n → row.length = n → 0 ≤ i → (∀ b, b < j → en 29 (row.getD b 0)) →
    ∃ row' i', row'.length = n ∧ 0 ≤ i' ∧ (∀ b, b < n → en 29 (row'.getD b 0)) ∧ ∀ r, Ev (fun k => railplankeep2_Matrix.l0 k (n : Int) (x6 ++ [row']) (wrap64 (x7 + 1)) l i') r → Ev (fun k => railplankeep2_Matrix.l1 k (n : Int) x6 x7 row (n : Int) (j : Int) l i) r := by
  induction d with
  | zero =>
    intro j row i hj hr hi hg
    refine ⟨row, i, hr, hi, fun b hb => hg b (by omega), fun r h => ?_⟩
    refine Ev_succ ?_
    simp only [railplankeep2_Matrix.l1]
    simp (disch := omega) only [if_neg, if_pos]
    exact h
  | succ d ih =>
    intro j row i hj hr hi hg
    obtain ⟨r1, j1, e1, a1, b1, hj1⟩ := next_f l i 40 hl hi (by omega) (by omega)
    obtain ⟨r2, j2, e2, a2, b2, hj2⟩ := next_f l j1 3 hl hj1 (by omega) (by omega)
    have hset : ∀ (x : Int), en 29 x → ∀ (rw0 : List Int), rw0.length = n → (∀ b, b < j → en 29 (rw0.getD b 0)) → ∀ b, b < j + 1 → en 29 ((rw0.set j x).getD b 0) := by
      intro x hx rw0 hl0 hg0 b hb
      rw [List.getD_eq_getElem?_getD]
      by_cases e : b = j
      · subst e
        rw [List.getElem?_set_self (by omega)]
        exact hx
      · rw [List.getElem?_set_ne (Ne.symm e), ← List.getD_eq_getElem?_getD]
        exact hg0 b (by omega)
    by_cases hz : r2 = 0
    · obtain ⟨row', i', h1, h2, h3, h4⟩ := ih (j + 1) ((row.set j (r1 - 10)).set j NV) j2 (by omega) (by simp [hr]) hj2 (hset NV (.inl rfl) (row.set j (r1 - 10)) (by simp [hr]) (fun b hb => hset (r1 - 10) (by unfold en; omega) row hr hg b (by omega)))
      refine ⟨row', i', h1, h2, h3, fun r h => ?_⟩
      refine Ev_succ ?_
      simp only [railplankeep2_Matrix.l1, e1, obind, e2]
      simp (disch := omega) only [if_pos, wr, Int.toNat_natCast, List.length_set]
      rw [show (j : Int) + 1 = ((j + 1 : Nat) : Int) by omega]
      exact h4 r h
    · obtain ⟨row', i', h1, h2, h3, h4⟩ := ih (j + 1) (row.set j (r1 - 10)) j2 (by omega) (by simp [hr]) hj2 (fun b hb => hset (r1 - 10) (by unfold en; omega) row hr hg b (by omega))
      refine ⟨row', i', h1, h2, h3, fun r h => ?_⟩
      refine Ev_succ ?_
      simp only [railplankeep2_Matrix.l1, e1, obind, e2]
      simp (disch := omega) only [if_pos, if_neg, wr, Int.toNat_natCast]
      rw [show (j : Int) + 1 = ((j + 1 : Nat) : Int) by omega]
      exact h4 r h
theorem rows_loop (l : List Int) (hl : l.length ≤ 17592186043904) (n : Nat) (hn : n ≤ 12) (d : Nat) : ∀ (a : Nat) (x6 : List (List Int)) (i : Int), a + d = n → x6.length = a → 0 ≤ i → (∀ r ∈ x6, r.length = n ∧ ∀ b, b < n → en 29 (r.getD b 0)) →
    ∃ M, Ev (fun k => railplankeep2_Matrix.l0 k (n : Int) x6 (a : Int) l i) M ∧ M.length = n ∧ ∀ r ∈ M, r.length = n ∧ ∀ b, b < n → en 29 (r.getD b 0) := by
  induction d with
  | zero =>
    intro a x6 i ha h6 hi hg
    refine ⟨x6, ?_, by omega, hg⟩
    refine Ev_succ ?_
    simp only [railplankeep2_Matrix.l0]
    simp (disch := omega) only [if_neg]
    exact Ev.now _
  | succ d ih =>
    intro a x6 i ha h6 hi hg
    obtain ⟨row', i', h1, h2, h3, h4⟩ := row_loop l hl n hn x6 (a : Int) (by omega) n 0 (List.replicate n 0) i (by omega) (by simp) hi (fun b hb => by omega)
    obtain ⟨M, hM, hM2, hM3⟩ := ih (a + 1) (x6 ++ [row']) i' (by omega) (by simp [h6]) h2 (by
      intro r hr
      rcases List.mem_append.1 hr with h | h
      · exact hg r h
      · have := List.mem_singleton.1 h
        subst this
        exact ⟨h1, h3⟩)
    refine ⟨M, ?_, hM2, hM3⟩
    refine Ev_succ ?_
    simp only [railplankeep2_Matrix.l0]
    have hw : ((n : Int)).toNat ≤ 35184372088832 := by omega
    simp only [if_pos (show (a : Int) < (n : Int) by omega), if_pos (show 0 ≤ (n : Int) by omega), if_pos hw, obind]
    simp only [Int.toNat_natCast, List.length_replicate]
    have := h4 M (by
      rw [wr (by omega) (by omega), show (a : Int) + 1 = ((a + 1 : Nat) : Int) by omega]
      exact hM)
    rw [show ((0 : Nat) : Int) = 0 from rfl] at this
    exact this
theorem matrix_made (l : List Int) (hl : l.length ≤ 17592186043904) (n : Nat) (hn : n ≤ 12) : ∃ f, Ev (fun k => railplankeep2_Matrix.f k (n : Int) l) (mat n n f) ∧ bd 29 n n f := by
  obtain ⟨M, hM, h1, h2⟩ := rows_loop l hl n hn n 0 [] 0 (by omega) rfl (by omega) (by simp)
  have e := eq_mat M n n h1 (fun r hr => (h2 r hr).1)
  refine ⟨fun i j => (M.getD i []).getD j 0, ?_, fun i j hi hj => ?_⟩
  · unfold railplankeep2_Matrix.f railplankeep_From.f
    simp only [obind]
    rw [← e]
    rw [show ((0 : Nat) : Int) = 0 from rfl] at hM
    exact hM
  · have hm : M.getD i [] ∈ M := by
      rw [List.getD_eq_getElem?_getD, List.getElem?_eq_getElem (by omega)]
      exact List.getElem_mem _
    exact (h2 _ hm).2 j hj

theorem entry_f (x : Int) (h : en 68719476736 x) : maxplus_entry.f x = some true := by
  unfold en NV at h
  unfold maxplus_entry.f
  by_cases h1 : x = -1125899906842624
  · rw [if_pos h1]
  · rw [if_neg h1, if_pos (by omega), decide_eq_true (by omega)]
theorem vector_loop (n : Nat) (h1 : 1 ≤ n) (hn : n ≤ 12) (f : Nat → Int) (hf : ∀ j, j < n → en 68719476736 (f j)) (d : Nat) : ∀ j : Nat, j + d = n → Ev (fun k => maxplus_Vector.l0 k (n : Int) (tab n f) (tab n f) (n : Int) (j : Int)) true := by
  induction d with
  | zero =>
    intro j hj
    refine Ev_succ ?_
    simp only [maxplus_Vector.l0, length_tab]
    simp (disch := omega) only [if_neg, if_pos]
    rw [decide_eq_true (by omega)]
    exact Ev.now _
  | succ d ih =>
    intro j hj
    refine Ev_succ ?_
    simp only [maxplus_Vector.l0, length_tab]
    simp (disch := omega) only [if_pos, rd_tab, Int.toNat_natCast, wr]
    rw [entry_f _ (hf j (by omega))]
    simp only [obind, if_true]
    rw [show (j : Int) + 1 = ((j + 1 : Nat) : Int) by omega]
    exact ih (j + 1) (by omega)
theorem vector_f (n : Nat) (h1 : 1 ≤ n) (hn : n ≤ 12) (f : Nat → Int) (hf : ∀ j, j < n → en 68719476736 (f j)) : Ev (fun k => maxplus_Vector.f k (n : Int) (tab n f)) true := by
  unfold maxplus_Vector.f
  rw [length_tab]
  exact vector_loop n h1 hn f hf n 0 (by omega)
theorem check_loop (n : Nat) (h1 : 1 ≤ n) (hn : n ≤ 12) (f : Nat → Nat → Int) (hf : bd 68719476736 n n f) (d : Nat) : ∀ i : Nat, i + d = n → Ev (fun k => maxplus_Check.l0 k (mat n n f) (mat n n f) (n : Int) (i : Int)) true := by
  induction d with
  | zero =>
    intro i hi
    refine Ev_succ ?_
    simp only [maxplus_Check.l0, length_mat]
    simp (disch := omega) only [if_neg, if_pos]
    rw [decide_eq_true (by omega)]
    exact Ev.now _
  | succ d ih =>
    intro i hi
    refine Ev_succ ?_
    simp only [maxplus_Check.l0, length_mat]
    simp (disch := omega) only [if_pos, rd1_mat, Int.toNat_natCast, wr]
    refine Ev.bind (vector_f n h1 hn (f i) (fun j hj => hf i j (by omega) hj)) ?_
    simp only [if_true]
    rw [show (i : Int) + 1 = ((i + 1 : Nat) : Int) by omega]
    exact ih (i + 1) (by omega)
theorem check_f (n : Nat) (h1 : 1 ≤ n) (hn : n ≤ 12) (f : Nat → Nat → Int) (hf : bd 68719476736 n n f) : Ev (fun k => maxplus_Check.f k (mat n n f)) true := by
  unfold maxplus_Check.f
  rw [length_mat]
  exact check_loop n h1 hn f hf n 0 (by omega)
theorem fits_loop (n m : Nat) (hn : n ≤ 12) (hm : m ≤ 12) (f : Nat → Nat → Int) (hf : bd 68719476736 n m f) (d : Nat) : ∀ i : Nat, i + d = n → Ev (fun k => maxplus_fits.l0 k (mat n m f) (n : Int) (i : Int)) true := by
  induction d with
  | zero =>
    intro i hi
    refine Ev_succ ?_
    simp only [maxplus_fits.l0]
    simp (disch := omega) only [if_neg]
    exact Ev.now _
  | succ d ih =>
    intro i hi
    refine Ev_succ ?_
    simp only [maxplus_fits.l0, length_mat]
    simp (disch := omega) only [if_pos, rd1_mat, Int.toNat_natCast, length_tab]
    have inner : ∀ e j : Nat, j + e = m → Ev (fun k => maxplus_fits.l1 k (mat n m f) (n : Int) (i : Int) (tab m (f i)) (m : Int) (j : Int)) true := by
      intro e
      induction e with
      | zero =>
        intro j hj
        refine Ev_succ ?_
        simp only [maxplus_fits.l1]
        simp (disch := omega) only [if_neg, wr]
        rw [show (i : Int) + 1 = ((i + 1 : Nat) : Int) by omega]
        exact ih (i + 1) (by omega)
      | succ e ih2 =>
        intro j hj
        refine Ev_succ ?_
        simp only [maxplus_fits.l1, length_tab]
        simp (disch := omega) only [if_pos, rd_tab, Int.toNat_natCast, wr]
        rw [entry_f _ (hf i j (by omega) (by omega))]
        simp only [obind, if_true]
        rw [show (j : Int) + 1 = ((j + 1 : Nat) : Int) by omega]
        exact ih2 (j + 1) (by omega)
    exact inner m 0 (by omega)
theorem fits_f (n m : Nat) (hn : n ≤ 12) (hm : m ≤ 12) (f : Nat → Nat → Int) (hf : bd 68719476736 n m f) : Ev (fun k => maxplus_fits.f k (mat n m f)) true := by
  unfold maxplus_fits.f
  rw [length_mat]
  exact fits_loop n m hn hm f hf n 0 (by omega)
theorem sum_f {A B x y : Int} (hx : en A x) (hy : en B y) (hA : A ≤ 1000000000000000) (hB : B ≤ 1000000000000000) : maxplus_sum.f x y = some (sm x y) := by
  unfold en NV at hx hy
  unfold maxplus_sum.f sm NV
  by_cases h1 : x = -1125899906842624
  · rw [if_pos h1, if_pos h1]
  · rw [if_neg h1, if_neg h1]
    by_cases h2 : y = -1125899906842624
    · rw [if_pos h2, if_pos h2]
    · rw [if_neg h2, if_neg h2, wr (by omega) (by omega)]
theorem matrix_loop (n m : Nat) (hn : n ≤ 12) (hm : m ≤ 12) (d : Nat) : ∀ i : Nat, i + d = n →
    Ev (fun k => maxplus_matrix.l0 k (m : Int) (tab n (fun a => if a < i then tab m (fun _ => NV) else [])) (n : Int) (i : Int)) (mat n m (fun _ _ => NV)) := by
  induction d with
  | zero =>
    intro i hi
    refine Ev_succ ?_
    simp only [maxplus_matrix.l0]
    simp (disch := omega) only [if_neg]
    have e : mat n m (fun _ _ => NV) = tab n (fun a => if a < i then tab m (fun _ => NV) else []) := tab_congr (fun a ha => by rw [if_pos (by omega)])
    rw [e]
    exact Ev.now _
  | succ d ih =>
    intro i hi
    refine Ev_succ ?_
    simp only [maxplus_matrix.l0, length_tab]
    have hw : ((m : Int)).toNat ≤ 35184372088832 := by omega
    simp only [if_pos (show (i : Int) < (n : Int) by omega), if_pos (show 0 ≤ (m : Int) by omega), if_pos hw, if_pos (show 0 ≤ (i : Int) by omega), obind]
    simp only [Int.toNat_natCast]
    rw [replicate_tab, set_tab]
    have inner : ∀ e j : Nat, j + e = m → Ev (fun k => maxplus_matrix.l1 k (m : Int) (tab n (fun a => if a = i then tab m (fun b => if b < j then NV else 0) else if a < i then tab m (fun _ => NV) else [])) (i : Int) (n : Int) (i : Int) (m : Int) (j : Int)) (mat n m (fun _ _ => NV)) := by
      intro e
      induction e with
      | zero =>
        intro j hj
        refine Ev_succ ?_
        simp only [maxplus_matrix.l1]
        simp (disch := omega) only [if_neg, wr]
        rw [show (i : Int) + 1 = ((i + 1 : Nat) : Int) by omega]
        have e : tab n (fun a => if a = i then tab m (fun b => if b < j then NV else 0) else if a < i then tab m (fun _ => NV) else []) = tab n (fun a => if a < i + 1 then tab m (fun _ => NV) else []) := tab_congr (fun a ha => by
          by_cases h1 : a = i
          · rw [if_pos h1, if_pos (by omega)]
            exact tab_congr (fun b hb => if_pos (by omega))
          · rw [if_neg h1]
            by_cases h2 : a < i
            · rw [if_pos h2, if_pos (by omega)]
            · rw [if_neg h2, if_neg (by omega)])
        rw [e]
        exact ih (i + 1) (by omega)
      | succ e ih2 =>
        intro j hj
        refine Ev_succ ?_
        simp only [maxplus_matrix.l1, length_tab]
        simp (disch := omega) only [if_pos, rd1_tab, Int.toNat_natCast, wr, if_true, length_tab]
        rw [set_tab, set_tab, show (j : Int) + 1 = ((j + 1 : Nat) : Int) by omega]
        have e : tab n (fun a => if a = i then tab m (fun b => if b = j then NV else if b < j then NV else 0) else if a = i then tab m (fun b => if b < j then NV else 0) else if a < i then tab m (fun _ => NV) else []) = tab n (fun a => if a = i then tab m (fun b => if b < j + 1 then NV else 0) else if a < i then tab m (fun _ => NV) else []) := tab_congr (fun a ha => by
          by_cases h1 : a = i
          · rw [if_pos h1, if_pos h1]
            refine tab_congr (fun b hb => ?_)
            by_cases h2 : b = j
            · rw [if_pos h2, if_pos (by omega)]
            · rw [if_neg h2]
              by_cases h3 : b < j
              · rw [if_pos h3, if_pos (by omega)]
              · rw [if_neg h3, if_neg (by omega)]
          · rw [if_neg h1, if_neg h1, if_neg h1])
        have e' := ih2 (j + 1) (by omega)
        rw [← e] at e'
        exact e'
    have h0 := inner m 0 (by omega)
    have hlen : ((rd_L1 (tab n (fun a => if a = i then tab m (fun _ => 0) else if a < i then tab m (fun _ => NV) else [])) (i : Int)).length : Int) = (m : Int) := by
      rw [rd1_tab _ _ _ (by omega) (by omega), Int.toNat_natCast, if_pos rfl, length_tab]
    have e0 : tab n (fun a => if a = i then tab m (fun b => if b < 0 then NV else 0) else if a < i then tab m (fun _ => NV) else []) = tab n (fun a => if a = i then tab m (fun _ => 0) else if a < i then tab m (fun _ => NV) else []) := tab_congr (fun a ha => by
      by_cases h1 : a = i
      · rw [if_pos h1, if_pos h1]
        exact tab_congr (fun b hb => if_neg (by omega))
      · rw [if_neg h1, if_neg h1])
    rw [e0, show ((0 : Nat) : Int) = 0 from rfl] at h0
    simp only [if_pos (show (i : Int) < (n : Int) by omega), hlen]
    exact h0
theorem matrix_f (n m : Nat) (hn : n ≤ 12) (hm : m ≤ 12) : Ev (fun k => maxplus_matrix.f k (n : Int) (m : Int)) (mat n m (fun _ _ => NV)) := by
  unfold maxplus_matrix.f
  have hw : ((n : Int)).toNat ≤ 11728124029610 := by omega
  simp only [if_pos (show 0 ≤ (n : Int) by omega), if_pos hw, obind]
  rw [Int.toNat_natCast, replicate_tab, length_tab]
  have h := matrix_loop n m hn hm n 0 (by omega)
  rw [tab_congr (f := fun a => if a < 0 then tab m (fun _ => NV) else []) (g := fun _ => []) (fun a ha => if_neg (by omega)), show ((0 : Nat) : Int) = 0 from rfl] at h
  exact h
section
variable {A B : Int} {n p m : Nat} {f g : Nat → Nat → Int} (hA : A ≤ 1000000000000000) (hB : B ≤ 1000000000000000) (hn : n ≤ 12) (hp0 : 1 ≤ p) (hp : p ≤ 12) (hm : m ≤ 12) (hf : bd A n p f) (hg : bd B p m g)
/-- The product as far as row i, term k, column j. -/
def part (p : Nat) (f g : Nat → Nat → Int) (i k j a b : Nat) : Int := if a < i then mp p f g a b else if a = i then (if b < j then mxr (fun k => sm (f a k) (g k b)) (k + 1) else mxr (fun k => sm (f a k) (g k b)) k) else NV
include hA hB hn hp hm hf hg
theorem product_l2 (i k : Nat) (hi : i < n) (hk : k < p) (r : List (List Int))
    (hr : Ev (fun q => maxplus_product.l1 q (mat p m g) (mat n m (part p f g i (k + 1) 0)) (i : Int) (mat n p f) (n : Int) (i : Int) (tab p (f i)) (p : Int) ((k + 1 : Nat) : Int)) r) (d : Nat) : ∀ j : Nat, j + d = m →
    Ev (fun q => maxplus_product.l2 q (mat p m g) (mat n m (part p f g i k j)) (i : Int) (f i k) (mat n p f) (n : Int) (i : Int) (tab p (f i)) (p : Int) (k : Int) (tab m (g k)) (m : Int) (j : Int)) r := by
  induction d with
  | zero =>
    intro j hj
    refine Ev_succ ?_
    simp only [maxplus_product.l2]
    simp (disch := omega) only [if_neg, wr]
    rw [show (k : Int) + 1 = ((k + 1 : Nat) : Int) by omega]
    have e : mat n m (part p f g i k j) = mat n m (part p f g i (k + 1) 0) := mat_congr (fun a b _ hb => by
      unfold part
      by_cases h1 : a < i
      · rw [if_pos h1, if_pos h1]
      · rw [if_neg h1, if_neg h1]
        by_cases h2 : a = i
        · rw [if_pos h2, if_pos h2, if_pos (by omega), if_neg (by omega)]
        · rw [if_neg h2, if_neg h2])
    rw [e]
    exact hr
  | succ d ih =>
    intro j hj
    refine Ev_succ ?_
    simp only [maxplus_product.l2, length_mat, length_tab]
    simp (disch := omega) only [if_pos, rd1_mat, rd_tab, Int.toNat_natCast, wr, length_tab]
    rw [sum_f (hf i k hi hk) (hg k j hk (by omega)) hA hB]
    simp only [obind]
    rw [set_mat, mx_eq, show (j : Int) + 1 = ((j + 1 : Nat) : Int) by omega]
    have e : mat n m (fun a b => if a = i ∧ b = j then max (part p f g i k j i j) (sm (f i k) (g k j)) else part p f g i k j a b) = mat n m (part p f g i k (j + 1)) := mat_congr (fun a b _ hb => by
      by_cases h1 : a = i
      · subst h1
        by_cases h2 : b = j
        · subst h2
          rw [if_pos ⟨rfl, rfl⟩]
          unfold part
          simp only [Nat.lt_irrefl, if_false, if_true]
          rw [if_pos (by omega)]
          rfl
        · rw [if_neg (fun h => h2 h.2)]
          unfold part
          simp only [Nat.lt_irrefl, if_false, if_true]
          by_cases h3 : b < j
          · rw [if_pos h3, if_pos (by omega)]
          · rw [if_neg h3, if_neg (by omega)]
      · rw [if_neg (fun h => h1 h.1)]
        unfold part
        by_cases h3 : a < i
        · rw [if_pos h3, if_pos h3]
        · rw [if_neg h3, if_neg h3, if_neg h1, if_neg h1])
    rw [e]
    exact ih (j + 1) (by omega)
theorem product_l1 (i : Nat) (hi : i < n) (r : List (List Int))
    (hr : Ev (fun q => maxplus_product.l0 q (mat p m g) (mat n m (part p f g (i + 1) 0 0)) (mat n p f) (n : Int) ((i + 1 : Nat) : Int)) r) (d : Nat) : ∀ k : Nat, k + d = p →
    Ev (fun q => maxplus_product.l1 q (mat p m g) (mat n m (part p f g i k 0)) (i : Int) (mat n p f) (n : Int) (i : Int) (tab p (f i)) (p : Int) (k : Int)) r := by
  induction d with
  | zero =>
    intro k hk
    refine Ev_succ ?_
    simp only [maxplus_product.l1]
    simp (disch := omega) only [if_neg, wr]
    rw [show (i : Int) + 1 = ((i + 1 : Nat) : Int) by omega]
    have e : mat n m (part p f g i k 0) = mat n m (part p f g (i + 1) 0 0) := mat_congr (fun a b _ hb => by
      unfold part
      by_cases h1 : a < i
      · rw [if_pos h1, if_pos (by omega)]
      · rw [if_neg h1]
        by_cases h2 : a = i
        · rw [if_pos h2, if_neg (by omega), if_pos (by omega), show k = p by omega]; rfl
        · rw [if_neg h2, if_neg (by omega)]
          by_cases h3 : a = i + 1
          · rw [if_pos h3, if_neg (by omega)]; rfl
          · rw [if_neg h3])
    rw [e]
    exact hr
  | succ d ih =>
    intro k hk
    refine Ev_succ ?_
    simp only [maxplus_product.l1, length_mat, length_tab]
    simp (disch := omega) only [if_pos, rd1_mat, rd_tab, Int.toNat_natCast, wr, length_tab]
    exact product_l2 hA hB hn hp hm hf hg i k hi (by omega) r (ih (k + 1) (by omega)) m 0 (by omega)
theorem product_l0 (d : Nat) : ∀ i : Nat, i + d = n →
    Ev (fun q => maxplus_product.l0 q (mat p m g) (mat n m (part p f g i 0 0)) (mat n p f) (n : Int) (i : Int)) (mat n m (mp p f g)) := by
  induction d with
  | zero =>
    intro i hi
    refine Ev_succ ?_
    simp only [maxplus_product.l0]
    simp (disch := omega) only [if_neg]
    have e : mat n m (part p f g i 0 0) = mat n m (mp p f g) := mat_congr (fun a b ha hb => by unfold part; rw [if_pos (by omega)])
    rw [e]
    exact Ev.now _
  | succ d ih =>
    intro i hi
    refine Ev_succ ?_
    simp only [maxplus_product.l0, length_mat]
    simp (disch := omega) only [if_pos, rd1_mat, Int.toNat_natCast, length_tab]
    exact product_l1 hA hB hn hp hm hf hg i (by omega) _ (ih (i + 1) (by omega)) p 0 (by omega)
include hp0
theorem product_f : Ev (fun q => maxplus_product.f q (mat n p f) (mat p m g)) (mat n m (mp p f g)) := by
  unfold maxplus_product.f
  simp only [length_mat]
  simp (disch := omega) only [if_pos, rd1_mat, length_tab]
  refine Ev.bind (matrix_f n m hn hm) ?_
  have e : mat n m (fun _ _ => NV) = mat n m (part p f g 0 0 0) := mat_congr (fun a b _ _ => by
    unfold part
    rw [if_neg (by omega)]
    by_cases h : a = 0
    · rw [if_pos h, if_neg (by omega)]; rfl
    · rw [if_neg h])
  rw [e]
  exact product_l0 hA hB hn hp hm hf hg n 0 (by omega)
end
theorem mul_f {A B : Int} {n : Nat} {f g : Nat → Nat → Int} (h1 : 1 ≤ n) (hn : n ≤ 12) (hf : bd A n n f) (hg : bd B n n g) (hA : A ≤ 1000000000) (hB : B ≤ 1000000000) : Ev (fun k => maxplus_Mul.f k (mat n n f) (mat n n g)) (mat n n (mp n f g), 0) := by
  unfold maxplus_Mul.f
  refine Ev.bind (check_f n h1 hn f (bd_mono hf (by omega))) ?_
  simp only [if_true]
  refine Ev.bind (check_f n h1 hn g (bd_mono hg (by omega))) ?_
  simp only [if_true, length_mat, bne_self_eq_false]
  refine Ev_succ ?_
  simp only [maxplus_Mul.j0, Bool.false_eq_true, if_false]
  refine Ev.bind (product_f (by omega) (by omega) hn h1 hn hn hf hg) ?_
  refine Ev.bind (fits_f n n hn hn _ (bd_mono (bd_mp hf hg) (by omega))) ?_
  simp only [if_true]
  exact Ev.now _

theorem same_loop (l : List Int) (hl : l.length ≤ 1000000) (d : Nat) : ∀ i : Nat, i + d = l.length → Ev (fun k => railplankeep_Same_int.l0 k l l (l.length : Int) (i : Int)) true := by
  induction d with
  | zero =>
    intro i hi
    refine Ev_succ ?_
    simp only [railplankeep_Same_int.l0]
    simp (disch := omega) only [if_neg]
    exact Ev.now _
  | succ d ih =>
    intro i hi
    refine Ev_succ ?_
    simp only [railplankeep_Same_int.l0]
    simp (disch := omega) only [if_pos, wr, if_true]
    rw [show (i : Int) + 1 = ((i + 1 : Nat) : Int) by omega]
    exact ih (i + 1) (by omega)
theorem same_f (l : List Int) (hl : l.length ≤ 1000000) : Ev (fun k => railplankeep_Same_int.f k l l) true := by
  unfold railplankeep_Same_int.f
  simp only [if_true]
  exact same_loop l hl l.length 0 (by omega)
theorem samelists_loop (l : List (List Int)) (hl : l.length ≤ 1000000) (hr : ∀ r ∈ l, r.length ≤ 1000000) (d : Nat) : ∀ i : Nat, i + d = l.length → Ev (fun k => railplankeep_SameLists_int.l0 k l l (l.length : Int) (i : Int)) true := by
  induction d with
  | zero =>
    intro i hi
    refine Ev_succ ?_
    simp only [railplankeep_SameLists_int.l0]
    simp (disch := omega) only [if_neg]
    exact Ev.now _
  | succ d ih =>
    intro i hi
    refine Ev_succ ?_
    simp only [railplankeep_SameLists_int.l0]
    simp (disch := omega) only [if_pos, wr]
    refine Ev.bind (same_f _ (hr _ (by
      unfold rd_L1
      rw [List.getD_eq_getElem?_getD, List.getElem?_eq_getElem (by omega)]
      exact List.getElem_mem _))) ?_
    simp only [if_true]
    rw [show (i : Int) + 1 = ((i + 1 : Nat) : Int) by omega]
    exact ih (i + 1) (by omega)
theorem samelists_f (l : List (List Int)) (hl : l.length ≤ 1000000) (hr : ∀ r ∈ l, r.length ≤ 1000000) : Ev (fun k => railplankeep_SameLists_int.f k l l) true := by
  unfold railplankeep_SameLists_int.f
  simp only [if_true]
  exact samelists_loop l hl hr l.length 0 (by omega)
theorem samemat_f (n m : Nat) (hn : n ≤ 12) (hm : m ≤ 12) (f : Nat → Nat → Int) : Ev (fun k => railplankeep_SameLists_int.f k (mat n m f) (mat n m f)) true :=
  samelists_f _ (by rw [length_mat]; omega) (fun r hr => by
    obtain ⟨i, _, rfl⟩ := List.mem_map.1 hr
    rw [length_tab]; omega)

theorem power_loop {B : Int} {n : Nat} {f : Nat → Nat → Int} (h1 : 1 ≤ n) (hn : n ≤ 12) (hB0 : 0 ≤ B) (hB : B ≤ 10000) (hf : bd B n n f) (K : Nat) (hK : K ≤ 1000) (d : Nat) : ∀ k : Nat, k + d = K →
    Ev (fun q => maxplus_Power.l1 q (mat n n f) (mat n n (pw n f k)) (K : Int) (k : Int)) (mat n n (pw n f K), 0) := by
  induction d with
  | zero =>
    intro k hk
    refine Ev_succ ?_
    simp only [maxplus_Power.l1]
    simp (disch := omega) only [if_neg]
    rw [show k = K by omega]
    exact Ev.now _
  | succ d ih =>
    intro k hk
    refine Ev_succ ?_
    simp only [maxplus_Power.l1]
    simp (disch := omega) only [if_pos, wr]
    have hb : (k : Int) * B ≤ 1000 * 10000 := Int.mul_le_mul (by omega) hB hB0 (by omega)
    refine Ev.bind (mul_f h1 hn (bd_pw hf k) hf (by omega) (by omega)) ?_
    simp only [if_true]
    rw [show (k : Int) + 1 = ((k + 1 : Nat) : Int) by omega]
    exact ih (k + 1) (by omega)
theorem power_f {B : Int} {n : Nat} {f : Nat → Nat → Int} (h1 : 1 ≤ n) (hn : n ≤ 12) (hB0 : 0 ≤ B) (hB : B ≤ 10000) (hf : bd B n n f) (K : Nat) (hK : K ≤ 1000) : Ev (fun q => maxplus_Power.f q (mat n n f) (K : Int)) (mat n n (pw n f K), 0) := by
  unfold maxplus_Power.f
  refine Ev.bind (check_f n h1 hn f (bd_mono hf (by omega))) ?_
  simp only [if_true]
  simp (disch := omega) only [if_neg]
  rw [decide_eq_false (by omega)]
  refine Ev_succ ?_
  simp only [maxplus_Power.j0, Bool.false_eq_true, if_false, length_mat]
  refine Ev.bind (matrix_f n n hn hn) ?_
  rw [length_mat]
  have diag : ∀ d i : Nat, i + d = n → Ev (fun q => maxplus_Power.l0 q (mat n n f) (K : Int) (mat n n (fun a b => if a = b ∧ a < i then 0 else NV)) (n : Int) (i : Int)) (mat n n (pw n f K), 0) := by
    intro d
    induction d with
    | zero =>
      intro i hi
      refine Ev_succ ?_
      simp only [maxplus_Power.l0]
      simp (disch := omega) only [if_neg]
      have e : mat n n (fun a b => if a = b ∧ a < i then 0 else NV) = mat n n (pw n f 0) := mat_congr (fun a b ha _ => by
        show _ = un a b
        unfold un
        by_cases h : a = b
        · rw [if_pos ⟨h, by omega⟩, if_pos h]
        · rw [if_neg (fun h2 => h h2.1), if_neg h])
      rw [e]
      exact power_loop h1 hn hB0 hB hf K hK K 0 (by omega)
    | succ d ih =>
      intro i hi
      refine Ev_succ ?_
      simp only [maxplus_Power.l0, length_mat]
      simp (disch := omega) only [if_pos, rd1_mat, Int.toNat_natCast, length_tab, wr]
      rw [set_mat, show (i : Int) + 1 = ((i + 1 : Nat) : Int) by omega]
      have e : mat n n (fun a b => if a = i ∧ b = i then 0 else if a = b ∧ a < i then 0 else NV) = mat n n (fun a b => if a = b ∧ a < i + 1 then 0 else NV) := mat_congr (fun a b ha _ => by
        by_cases h : a = i ∧ b = i
        · rw [if_pos h, if_pos (by omega)]
        · rw [if_neg h]
          by_cases h2 : a = b ∧ a < i
          · rw [if_pos h2, if_pos (by omega)]
          · rw [if_neg h2, if_neg (by omega)])
      rw [e]
      exact ih (i + 1) (by omega)
  have h := diag n 0 (by omega)
  have e : mat n n (fun a b => if a = b ∧ a < 0 then 0 else NV) = mat n n (fun _ _ => NV) := mat_congr (fun a b _ _ => if_neg (by omega))
  rw [e, show ((0 : Nat) : Int) = 0 from rfl] at h
  exact h

theorem awake_f : Ev (fun k => railplanlaw33_awake.f k) true := Ev.of (fun k => railplanlaw33_awake.mono k) (k := 40) (by decide +kernel)

theorem MaxplusPower : railplanlaw33_MaxplusPower.Pure := by
  intro a0 l1 a2 a3 _ _ h1 _ _ _
  obtain ⟨p, hp, p0, p1⟩ := pick_f a0 4 (by omega) (by omega)
  obtain ⟨n, hn⟩ : ∃ n : Nat, 1 + p = (n : Int) := ⟨(1 + p).toNat, by omega⟩
  obtain ⟨f, hf, bf⟩ := matrix_made l1 (by omega) n (by omega)
  obtain ⟨x, hx, x0, x1⟩ := pick_f a2 15 (by omega) (by omega)
  obtain ⟨y, hy, y0, y1⟩ := pick_f a3 15 (by omega) (by omega)
  obtain ⟨u, rfl⟩ : ∃ u : Nat, x = (u : Int) := ⟨x.toNat, by omega⟩
  obtain ⟨v, rfl⟩ : ∃ v : Nat, y = (v : Int) := ⟨y.toNat, by omega⟩
  refine Ev.rounds ?_
  unfold railplanlaw33_MaxplusPower.f
  rw [hp]
  simp only [obind]
  rw [wr (x := 1 + p) (by omega) (by omega), hn]
  refine Ev.bind hf ?_
  rw [hx, hy]
  simp only [obind]
  rw [wr (x := (u : Int) + v) (by omega) (by omega), show (u : Int) + v = ((u + v : Nat) : Int) by omega]
  refine Ev.bind (power_f (by omega) (by omega) (by omega) (by omega) bf u (by omega)) ?_
  refine Ev.bind (power_f (by omega) (by omega) (by omega) (by omega) bf v (by omega)) ?_
  refine Ev.bind (power_f (by omega) (by omega) (by omega) (by omega) bf (u + v) (by omega)) ?_
  refine Ev.bind (mul_f (by omega) (by omega) (bd_pw bf u) (bd_pw bf v) (by omega) (by omega)) ?_
  refine Ev.bind awake_f ?_
  simp only [if_true]
  have e1 : mat n n (mp n (pw n f u) (pw n f v)) = mat n n (pw n f (u + v)) := mat_congr (fun i j hi hj => pw_add (by omega) (by omega) bf u v (by omega) i j hi hj)
  rw [e1]
  refine Ev.bind (samemat_f n n (by omega) (by omega) _) ?_
  exact Ev.now _

end Go.Proofs.Ytnmhdeibjglhcaa.Pure
