/- Mean, Critical, Star and Power return what the reference returns; for all arguments. -/
import Derived.Test.YtnmhdeibjglhcaaXAllx15
import Derived.Test.YtnmhdeibjglhcaaMpStar
import Derived.OpenShut
set_option linter.unusedVariables false
set_option linter.unusedSimpArgs false
set_option linter.unusedSectionVars false
namespace Go.Proofs.Ytnmhdeibjglhcaa.Pure
open Go.RowKit Go.Proofs.Ytnmhdeibjglhcaa.XAll Go.Proofs.YtnmhdeibjglhcaaW.PrintWords Go.Proofs.YtnmhdeibjglhcaaW.PrintLast Go.Proofs.YtnmhdeibjglhcaaW.PrintMore Go.Proofs.Ytnmhdeibjglhcaa.MpMath Go.Proofs.Ytnmhdeibjglhcaa.MpWalk Go.Proofs.Ytnmhdeibjglhcaa.MpCyc Go.Proofs.Ytnmhdeibjglhcaa.MpStar

/-- Not by sight: the kernel is not to look into what is bound. -/
theorem obind {α β : Type} (a : α) (f : α → Option β) : (some a).bind f = f a := by cases h : f a <;> simp [h]
theorem wr {x : Int} (h1 : -9223372036854775808 ≤ x) (h2 : x ≤ 9223372036854775807) : wrap64 x = x := by unfold wrap64; omega
theorem Ev_succ {α : Type} {g : Nat → Option α} {r : α} (h : Ev (fun k => g (k + 1)) r) : Ev g r := Ev.step (fun _ => rfl) h
theorem mn_eq (a b : Int) : mn a b = min a b := by unfold mn; omega
theorem mx_eq (a b : Int) : mx a b = max a b := by unfold mx; omega
theorem rd_tab (n : Nat) (f : Nat → Int) (i : Int) (h0 : 0 ≤ i) (h : i < n) : rd (tab n f) i = f i.toNat := by
  unfold rd; exact getD_tab n f 0 i.toNat (by omega)
theorem uwrap (n : Int) : IntKind.u64.wrap n = n % 18446744073709551616 := by
  unfold IntKind.wrap
  simp only [IntKind.signed, IntKind.bits, Bool.false_and, Bool.false_eq_true, if_false]
  rfl

theorem pick_f (a n : Int) (h1 : 1 ≤ n) (h2 : n ≤ 9223372036854775807) : ∃ r, railplankeep_Pick.f a n = some r ∧ 0 ≤ r ∧ r < n := by
  unfold railplankeep_Pick.f
  have e : IntKind.u64.wrap n = n := by rw [uwrap]; omega
  have h0 : 0 ≤ IntKind.u64.wrap a := by rw [uwrap]; omega
  rw [e, if_neg (by omega)]
  have h3 := Int.tmod_eq_emod_of_nonneg (b := n) h0
  have h4 := Int.emod_nonneg (IntKind.u64.wrap a) (show n ≠ 0 by omega)
  have h5 := Int.emod_lt_of_pos (IntKind.u64.wrap a) (show 0 < n by omega)
  exact ⟨_, rfl, by rw [h3, wr (by omega) (by omega)]; exact h4, by rw [h3, wr (by omega) (by omega)]; exact h5⟩
theorem next_f (l : List Int) (i n : Int) (hl : l.length ≤ 17592186043904) (h0 : 0 ≤ i) (h1 : 1 ≤ n) (h2 : n ≤ 9223372036854775807) : ∃ r j, railplankeep_Source_Next.f l i n = some (r, j) ∧ 0 ≤ r ∧ r < n ∧ 0 ≤ j := by
  unfold railplankeep_Source_Next.f
  split
  · exact ⟨0, i, rfl, by omega, by omega, h0⟩
  · rename_i h
    have e1 : wrap64 (i + 1) = i + 1 := wr (by omega) (by omega)
    have e2 : wrap64 (i + 1 - 1) = i := by rw [wr (by omega) (by omega)]; omega
    rw [e1, e2, if_pos h0, if_pos (by omega)]
    obtain ⟨r, hr, h3, h4⟩ := pick_f (rd l i) n h1 h2
    rw [hr]
    exact ⟨r, i + 1, rfl, h3, h4, by omega⟩

theorem rd1_tab (n : Nat) (F : Nat → List Int) (i : Int) (h0 : 0 ≤ i) (h : i < n) : rd_L1 (tab n F) i = F i.toNat := by
  unfold rd_L1; exact getD_tab n F [] i.toNat (by omega)
theorem rd1_mat (n m : Nat) (f : Nat → Nat → Int) (i : Int) (h0 : 0 ≤ i) (h : i < n) : rd_L1 (mat n m f) i = tab m (f i.toNat) := rd1_tab n _ i h0 h
theorem row_loop (l : List Int) (hl : l.length ≤ 17592186043904) (n : Nat) (hn : n ≤ 12) (x6 : List (List Int)) (x7 : Int) (h6 : x6.length ≤ 100) (d : Nat) : ∀ (j : Nat) (row : List Int) (i : Int), j + d = n → row.length = n → 0 ≤ i → (∀ b, b < j → en 29 (row.getD b 0)) →
    ∃ row' i', row'.length = n ∧ 0 ≤ i' ∧ (∀ b, b < n → en 29 (row'.getD b 0)) ∧ ∀ r, Ev (fun k => railplankeep2_Matrix.l0 k (n : Int) (x6 ++ [row']) (wrap64 (x7 + 1)) l i') r → Ev (fun k => railplankeep2_Matrix.l1 k (n : Int) x6 x7 row (n : Int) (j : Int) l i) r := by
  induction d with
  | zero =>
    intro j row i hj hr hi hg
    refine ⟨row, i, hr, hi, fun b hb => hg b (by omega), fun r h => ?_⟩
    refine Ev_succ ?_
    simp only [railplankeep2_Matrix.l1]
    simp (disch := omega) only [if_neg, if_pos]
    exact h
  | succ d ih =>
    intro j row i hj hr hi hg
    obtain ⟨r1, j1, e1, a1, b1, hj1⟩ := next_f l i 40 hl hi (by omega) (by omega)
    obtain ⟨r2, j2, e2, a2, b2, hj2⟩ := next_f l j1 3 hl hj1 (by omega) (by omega)
    have hset : ∀ (x : Int), en 29 x → ∀ (rw0 : List Int), rw0.length = n → (∀ b, b < j → en 29 (rw0.getD b 0)) → ∀ b, b < j + 1 → en 29 ((rw0.set j x).getD b 0) := by
      intro x hx rw0 hl0 hg0 b hb
      rw [List.getD_eq_getElem?_getD]
      by_cases e : b = j
      · subst e
        rw [List.getElem?_set_self (by omega)]
        exact hx
      · rw [List.getElem?_set_ne (Ne.symm e), ← List.getD_eq_getElem?_getD]
        exact hg0 b (by omega)
    by_cases hz : r2 = 0
    · obtain ⟨row', i', h1, h2, h3, h4⟩ := ih (j + 1) ((row.set j (r1 - 10)).set j NV) j2 (by omega) (by simp [hr]) hj2 (hset NV (.inl rfl) (row.set j (r1 - 10)) (by simp [hr]) (fun b hb => hset (r1 - 10) (by unfold en; omega) row hr hg b (by omega)))
      refine ⟨row', i', h1, h2, h3, fun r h => ?_⟩
      refine Ev_succ ?_
      simp only [railplankeep2_Matrix.l1, e1, obind, e2]
      simp (disch := omega) only [if_pos, wr, Int.toNat_natCast, List.length_set]
      rw [show (j : Int) + 1 = ((j + 1 : Nat) : Int) by omega]
      exact h4 r h
    · obtain ⟨row', i', h1, h2, h3, h4⟩ := ih (j + 1) (row.set j (r1 - 10)) j2 (by omega) (by simp [hr]) hj2 (fun b hb => hset (r1 - 10) (by unfold en; omega) row hr hg b (by omega))
      refine ⟨row', i', h1, h2, h3, fun r h => ?_⟩
      refine Ev_succ ?_
      simp only [railplankeep2_Matrix.l1, e1, obind, e2]
      simp (disch := omega) only [if_pos, if_neg, wr, Int.toNat_natCast]
      rw [show (j : Int) + 1 = ((j + 1 : Nat) : Int) by omega]
      exact h4 r h
theorem rows_loop (l : List Int) (hl : l.length ≤ 17592186043904) (n : Nat) (hn : n ≤ 12) (d : Nat) : ∀ (a : Nat) (x6 : List (List Int)) (i : Int), a + d = n → x6.length = a → 0 ≤ i → (∀ r ∈ x6, r.length = n ∧ ∀ b, b < n → en 29 (r.getD b 0)) →
    ∃ M, Ev (fun k => railplankeep2_Matrix.l0 k (n : Int) x6 (a : Int) l i) M ∧ M.length = n ∧ ∀ r ∈ M, r.length = n ∧ ∀ b, b < n → en 29 (r.getD b 0) := by
  induction d with
  | zero =>
    intro a x6 i ha h6 hi hg
    refine ⟨x6, ?_, by omega, hg⟩
    refine Ev_succ ?_
    simp only [railplankeep2_Matrix.l0]
    simp (disch := omega) only [if_neg]
    exact Ev.now _
  | succ d ih =>
    intro a x6 i ha h6 hi hg
    obtain ⟨row', i', h1, h2, h3, h4⟩ := row_loop l hl n hn x6 (a : Int) (by omega) n 0 (List.replicate n 0) i (by omega) (by simp) hi (fun b hb => by omega)
    obtain ⟨M, hM, hM2, hM3⟩ := ih (a + 1) (x6 ++ [row']) i' (by omega) (by simp [h6]) h2 (by
      intro r hr
      rcases List.mem_append.1 hr with h | h
      · exact hg r h
      · have := List.mem_singleton.1 h
        subst this
        exact ⟨h1, h3⟩)
    refine ⟨M, ?_, hM2, hM3⟩
    refine Ev_succ ?_
    simp only [railplankeep2_Matrix.l0]
    have hw : ((n : Int)).toNat ≤ 35184372088832 := by omega
    simp only [if_pos (show (a : Int) < (n : Int) by omega), if_pos (show 0 ≤ (n : Int) by omega), if_pos hw, obind]
    simp only [Int.toNat_natCast, List.length_replicate]
    have := h4 M (by
      rw [wr (by omega) (by omega), show (a : Int) + 1 = ((a + 1 : Nat) : Int) by omega]
      exact hM)
    rw [show ((0 : Nat) : Int) = 0 from rfl] at this
    exact this
theorem matrix_made (l : List Int) (hl : l.length ≤ 17592186043904) (n : Nat) (hn : n ≤ 12) : ∃ f, Ev (fun k => railplankeep2_Matrix.f k (n : Int) l) (mat n n f) ∧ bd 29 n n f := by
  obtain ⟨M, hM, h1, h2⟩ := rows_loop l hl n hn n 0 [] 0 (by omega) rfl (by omega) (by simp)
  have e := eq_mat M n n h1 (fun r hr => (h2 r hr).1)
  refine ⟨fun i j => (M.getD i []).getD j 0, ?_, fun i j hi hj => ?_⟩
  · unfold railplankeep2_Matrix.f railplankeep_From.f
    simp only [obind]
    rw [← e]
    rw [show ((0 : Nat) : Int) = 0 from rfl] at hM
    exact hM
  · have hm : M.getD i [] ∈ M := by
      rw [List.getD_eq_getElem?_getD, List.getElem?_eq_getElem (by omega)]
      exact List.getElem_mem _
    exact (h2 _ hm).2 j hj

theorem entry_f (x : Int) (h : en 68719476736 x) : maxplus_entry.f x = some true := by
  unfold en NV at h
  unfold maxplus_entry.f
  by_cases h1 : x = -1125899906842624
  · rw [if_pos h1]
  · rw [if_neg h1, if_pos (by omega), decide_eq_true (by omega)]
theorem vector_loop (n : Nat) (h1 : 1 ≤ n) (hn : n ≤ 12) (f : Nat → Int) (hf : ∀ j, j < n → en 68719476736 (f j)) (d : Nat) : ∀ j : Nat, j + d = n → Ev (fun k => maxplus_Vector.l0 k (n : Int) (tab n f) (tab n f) (n : Int) (j : Int)) true := by
  induction d with
  | zero =>
    intro j hj
    refine Ev_succ ?_
    simp only [maxplus_Vector.l0, length_tab]
    simp (disch := omega) only [if_neg, if_pos]
    rw [decide_eq_true (by omega)]
    exact Ev.now _
  | succ d ih =>
    intro j hj
    refine Ev_succ ?_
    simp only [maxplus_Vector.l0, length_tab]
    simp (disch := omega) only [if_pos, rd_tab, Int.toNat_natCast, wr]
    rw [entry_f _ (hf j (by omega))]
    simp only [obind, if_true]
    rw [show (j : Int) + 1 = ((j + 1 : Nat) : Int) by omega]
    exact ih (j + 1) (by omega)
theorem vector_f (n : Nat) (h1 : 1 ≤ n) (hn : n ≤ 12) (f : Nat → Int) (hf : ∀ j, j < n → en 68719476736 (f j)) : Ev (fun k => maxplus_Vector.f k (n : Int) (tab n f)) true := by
  unfold maxplus_Vector.f
  rw [length_tab]
  exact vector_loop n h1 hn f hf n 0 (by omega)
theorem check_loop (n : Nat) (h1 : 1 ≤ n) (hn : n ≤ 12) (f : Nat → Nat → Int) (hf : bd 68719476736 n n f) (d : Nat) : ∀ i : Nat, i + d = n → Ev (fun k => maxplus_Check.l0 k (mat n n f) (mat n n f) (n : Int) (i : Int)) true := by
  induction d with
  | zero =>
    intro i hi
    refine Ev_succ ?_
    simp only [maxplus_Check.l0, length_mat]
    simp (disch := omega) only [if_neg, if_pos]
    rw [decide_eq_true (by omega)]
    exact Ev.now _
  | succ d ih =>
    intro i hi
    refine Ev_succ ?_
    simp only [maxplus_Check.l0, length_mat]
    simp (disch := omega) only [if_pos, rd1_mat, Int.toNat_natCast, wr]
    refine Ev.bind (vector_f n h1 hn (f i) (fun j hj => hf i j (by omega) hj)) ?_
    simp only [if_true]
    rw [show (i : Int) + 1 = ((i + 1 : Nat) : Int) by omega]
    exact ih (i + 1) (by omega)
theorem check_f (n : Nat) (h1 : 1 ≤ n) (hn : n ≤ 12) (f : Nat → Nat → Int) (hf : bd 68719476736 n n f) : Ev (fun k => maxplus_Check.f k (mat n n f)) true := by
  unfold maxplus_Check.f
  rw [length_mat]
  exact check_loop n h1 hn f hf n 0 (by omega)
theorem fits_loop (n m : Nat) (hn : n ≤ 12) (hm : m ≤ 12) (f : Nat → Nat → Int) (hf : bd 68719476736 n m f) (d : Nat) : ∀ i : Nat, i + d = n → Ev (fun k => maxplus_fits.l0 k (mat n m f) (n : Int) (i : Int)) true := by
  induction d with
  | zero =>
    intro i hi
    refine Ev_succ ?_
    simp only [maxplus_fits.l0]
    simp (disch := omega) only [if_neg]
    exact Ev.now _
  | succ d ih =>
    intro i hi
    refine Ev_succ ?_
    simp only [maxplus_fits.l0, length_mat]
    simp (disch := omega) only [if_pos, rd1_mat, Int.toNat_natCast, length_tab]
    have inner : ∀ e j : Nat, j + e = m → Ev (fun k => maxplus_fits.l1 k (mat n m f) (n : Int) (i : Int) (tab m (f i)) (m : Int) (j : Int)) true := by
      intro e
      induction e with
      | zero =>
        intro j hj
        refine Ev_succ ?_
        simp only [maxplus_fits.l1]
        simp (disch := omega) only [if_neg, wr]
        rw [show (i : Int) + 1 = ((i + 1 : Nat) : Int) by omega]
        exact ih (i + 1) (by omega)
      | succ e ih2 =>
        intro j hj
        refine Ev_succ ?_
        simp only [maxplus_fits.l1, length_tab]
        simp (disch := omega) only [if_pos, rd_tab, Int.toNat_natCast, wr]
        rw [entry_f _ (hf i j (by omega) (by omega))]
        simp only [obind, if_true]
        rw [show (j : Int) + 1 = ((j + 1 : Nat) : Int) by omega]
        exact ih2 (j + 1) (by omega)
    exact inner m 0 (by omega)
theorem fits_f (n m : Nat) (hn : n ≤ 12) (hm : m ≤ 12) (f : Nat → Nat → Int) (hf : bd 68719476736 n m f) : Ev (fun k => maxplus_fits.f k (mat n m f)) true := by
  unfold maxplus_fits.f
  rw [length_mat]
  exact fits_loop n m hn hm f hf n 0 (by omega)
theorem sum_f {A B x y : Int} (hx : en A x) (hy : en B y) (hA : A ≤ 1000000000000000) (hB : B ≤ 1000000000000000) : maxplus_sum.f x y = some (sm x y) := by
  unfold en NV at hx hy
  unfold maxplus_sum.f sm NV
  by_cases h1 : x = -1125899906842624
  · rw [if_pos h1, if_pos h1]
  · rw [if_neg h1, if_neg h1]
    by_cases h2 : y = -1125899906842624
    · rw [if_pos h2, if_pos h2]
    · rw [if_neg h2, if_neg h2, wr (by omega) (by omega)]
theorem matrix_loop (n m : Nat) (hn : n ≤ 12) (hm : m ≤ 12) (d : Nat) : ∀ i : Nat, i + d = n →
    Ev (fun k => maxplus_matrix.l0 k (m : Int) (tab n (fun a => if a < i then tab m (fun _ => NV) else [])) (n : Int) (i : Int)) (mat n m (fun _ _ => NV)) := by
  induction d with
  | zero =>
    intro i hi
    refine Ev_succ ?_
    simp only [maxplus_matrix.l0]
    simp (disch := omega) only [if_neg]
    have e : mat n m (fun _ _ => NV) = tab n (fun a => if a < i then tab m (fun _ => NV) else []) := tab_congr (fun a ha => by rw [if_pos (by omega)])
    rw [e]
    exact Ev.now _
  | succ d ih =>
    intro i hi
    refine Ev_succ ?_
    simp only [maxplus_matrix.l0, length_tab]
    have hw : ((m : Int)).toNat ≤ 35184372088832 := by omega
    simp only [if_pos (show (i : Int) < (n : Int) by omega), if_pos (show 0 ≤ (m : Int) by omega), if_pos hw, if_pos (show 0 ≤ (i : Int) by omega), obind]
    simp only [Int.toNat_natCast]
    rw [replicate_tab, set_tab]
    have inner : ∀ e j : Nat, j + e = m → Ev (fun k => maxplus_matrix.l1 k (m : Int) (tab n (fun a => if a = i then tab m (fun b => if b < j then NV else 0) else if a < i then tab m (fun _ => NV) else [])) (i : Int) (n : Int) (i : Int) (m : Int) (j : Int)) (mat n m (fun _ _ => NV)) := by
      intro e
      induction e with
      | zero =>
        intro j hj
        refine Ev_succ ?_
        simp only [maxplus_matrix.l1]
        simp (disch := omega) only [if_neg, wr]
        rw [show (i : Int) + 1 = ((i + 1 : Nat) : Int) by omega]
        have e : tab n (fun a => if a = i then tab m (fun b => if b < j then NV else 0) else if a < i then tab m (fun _ => NV) else []) = tab n (fun a => if a < i + 1 then tab m (fun _ => NV) else []) := tab_congr (fun a ha => by
          by_cases h1 : a = i
          · rw [if_pos h1, if_pos (by omega)]
            exact tab_congr (fun b hb => if_pos (by omega))
          · rw [if_neg h1]
            by_cases h2 : a < i
            · rw [if_pos h2, if_pos (by omega)]
            · rw [if_neg h2, if_neg (by omega)])
        rw [e]
        exact ih (i + 1) (by omega)
      | succ e ih2 =>
        intro j hj
        refine Ev_succ ?_
        simp only [maxplus_matrix.l1, length_tab]
        simp (disch := omega) only [if_pos, rd1_tab, Int.toNat_natCast, wr, if_true, length_tab]
        rw [set_tab, set_tab, show (j : Int) + 1 = ((j + 1 : Nat) : Int) by omega]
        have e : tab n (fun a => if a = i then tab m (fun b => if b = j then NV else if b < j then NV else 0) else if a = i then tab m (fun b => if b < j then NV else 0) else if a < i then tab m (fun _ => NV) else []) = tab n (fun a => if a = i then tab m (fun b => if b < j + 1 then NV else 0) else if a < i then tab m (fun _ => NV) else []) := tab_congr (fun a ha => by
          by_cases h1 : a = i
          · rw [if_pos h1, if_pos h1]
            refine tab_congr (fun b hb => ?_)
            by_cases h2 : b = j
            · rw [if_pos h2, if_pos (by omega)]
            · rw [if_neg h2]
              by_cases h3 : b < j
              · rw [if_pos h3, if_pos (by omega)]
              · rw [if_neg h3, if_neg (by omega)]
          · rw [if_neg h1, if_neg h1, if_neg h1])
        have e' := ih2 (j + 1) (by omega)
        rw [← e] at e'
        exact e'
    have h0 := inner m 0 (by omega)
    have hlen : ((rd_L1 (tab n (fun a => if a = i then tab m (fun _ => 0) else if a < i then tab m (fun _ => NV) else [])) (i : Int)).length : Int) = (m : Int) := by
      rw [rd1_tab _ _ _ (by omega) (by omega), Int.toNat_natCast, if_pos rfl, length_tab]
    have e0 : tab n (fun a => if a = i then tab m (fun b => if b < 0 then NV else 0) else if a < i then tab m (fun _ => NV) else []) = tab n (fun a => if a = i then tab m (fun _ => 0) else if a < i then tab m (fun _ => NV) else []) := tab_congr (fun a ha => by
      by_cases h1 : a = i
      · rw [if_pos h1, if_pos h1]
        exact tab_congr (fun b hb => if_neg (by omega))
      · rw [if_neg h1, if_neg h1])
    rw [e0, show ((0 : Nat) : Int) = 0 from rfl] at h0
    simp only [if_pos (show (i : Int) < (n : Int) by omega), hlen]
    exact h0
theorem matrix_f (n m : Nat) (hn : n ≤ 12) (hm : m ≤ 12) : Ev (fun k => maxplus_matrix.f k (n : Int) (m : Int)) (mat n m (fun _ _ => NV)) := by
  unfold maxplus_matrix.f
  have hw : ((n : Int)).toNat ≤ 11728124029610 := by omega
  simp only [if_pos (show 0 ≤ (n : Int) by omega), if_pos hw, obind]
  rw [Int.toNat_natCast, replicate_tab, length_tab]
  have h := matrix_loop n m hn hm n 0 (by omega)
  rw [tab_congr (f := fun a => if a < 0 then tab m (fun _ => NV) else []) (g := fun _ => []) (fun a ha => if_neg (by omega)), show ((0 : Nat) : Int) = 0 from rfl] at h
  exact h
section
variable {A B : Int} {n p m : Nat} {f g : Nat → Nat → Int} (hA : A ≤ 1000000000000000) (hB : B ≤ 1000000000000000) (hn : n ≤ 12) (hp0 : 1 ≤ p) (hp : p ≤ 12) (hm : m ≤ 12) (hf : bd A n p f) (hg : bd B p m g)
/-- The product as far as row i, term k, column j. -/
def part (p : Nat) (f g : Nat → Nat → Int) (i k j a b : Nat) : Int := if a < i then mp p f g a b else if a = i then (if b < j then mxr (fun k => sm (f a k) (g k b)) (k + 1) else mxr (fun k => sm (f a k) (g k b)) k) else NV
include hA hB hn hp hm hf hg
theorem product_l2 (i k : Nat) (hi : i < n) (hk : k < p) (r : List (List Int))
    (hr : Ev (fun q => maxplus_product.l1 q (mat p m g) (mat n m (part p f g i (k + 1) 0)) (i : Int) (mat n p f) (n : Int) (i : Int) (tab p (f i)) (p : Int) ((k + 1 : Nat) : Int)) r) (d : Nat) : ∀ j : Nat, j + d = m →
    Ev (fun q => maxplus_product.l2 q (mat p m g) (mat n m (part p f g i k j)) (i : Int) (f i k) (mat n p f) (n : Int) (i : Int) (tab p (f i)) (p : Int) (k : Int) (tab m (g k)) (m : Int) (j : Int)) r := by
  induction d with
  | zero =>
    intro j hj
    refine Ev_succ ?_
    simp only [maxplus_product.l2]
    simp (disch := omega) only [if_neg, wr]
    rw [show (k : Int) + 1 = ((k + 1 : Nat) : Int) by omega]
    have e : mat n m (part p f g i k j) = mat n m (part p f g i (k + 1) 0) := mat_congr (fun a b _ hb => by
      unfold part
      by_cases h1 : a < i
      · rw [if_pos h1, if_pos h1]
      · rw [if_neg h1, if_neg h1]
        by_cases h2 : a = i
        · rw [if_pos h2, if_pos h2, if_pos (by omega), if_neg (by omega)]
        · rw [if_neg h2, if_neg h2])
    rw [e]
    exact hr
  | succ d ih =>
    intro j hj
    refine Ev_succ ?_
    simp only [maxplus_product.l2, length_mat, length_tab]
    simp (disch := omega) only [if_pos, rd1_mat, rd_tab, Int.toNat_natCast, wr, length_tab]
    rw [sum_f (hf i k hi hk) (hg k j hk (by omega)) hA hB]
    simp only [obind]
    rw [set_mat, mx_eq, show (j : Int) + 1 = ((j + 1 : Nat) : Int) by omega]
    have e : mat n m (fun a b => if a = i ∧ b = j then max (part p f g i k j i j) (sm (f i k) (g k j)) else part p f g i k j a b) = mat n m (part p f g i k (j + 1)) := mat_congr (fun a b _ hb => by
      by_cases h1 : a = i
      · subst h1
        by_cases h2 : b = j
        · subst h2
          rw [if_pos ⟨rfl, rfl⟩]
          unfold part
          simp only [Nat.lt_irrefl, if_false, if_true]
          rw [if_pos (by omega)]
          rfl
        · rw [if_neg (fun h => h2 h.2)]
          unfold part
          simp only [Nat.lt_irrefl, if_false, if_true]
          by_cases h3 : b < j
          · rw [if_pos h3, if_pos (by omega)]
          · rw [if_neg h3, if_neg (by omega)]
      · rw [if_neg (fun h => h1 h.1)]
        unfold part
        by_cases h3 : a < i
        · rw [if_pos h3, if_pos h3]
        · rw [if_neg h3, if_neg h3, if_neg h1, if_neg h1])
    rw [e]
    exact ih (j + 1) (by omega)
theorem product_l1 (i : Nat) (hi : i < n) (r : List (List Int))
    (hr : Ev (fun q => maxplus_product.l0 q (mat p m g) (mat n m (part p f g (i + 1) 0 0)) (mat n p f) (n : Int) ((i + 1 : Nat) : Int)) r) (d : Nat) : ∀ k : Nat, k + d = p →
    Ev (fun q => maxplus_product.l1 q (mat p m g) (mat n m (part p f g i k 0)) (i : Int) (mat n p f) (n : Int) (i : Int) (tab p (f i)) (p : Int) (k : Int)) r := by
  induction d with
  | zero =>
    intro k hk
    refine Ev_succ ?_
    simp only [maxplus_product.l1]
    simp (disch := omega) only [if_neg, wr]
    rw [show (i : Int) + 1 = ((i + 1 : Nat) : Int) by omega]
    have e : mat n m (part p f g i k 0) = mat n m (part p f g (i + 1) 0 0) := mat_congr (fun a b _ hb => by
      unfold part
      by_cases h1 : a < i
      · rw [if_pos h1, if_pos (by omega)]
      · rw [if_neg h1]
        by_cases h2 : a = i
        · rw [if_pos h2, if_neg (by omega), if_pos (by omega), show k = p by omega]; rfl
        · rw [if_neg h2, if_neg (by omega)]
          by_cases h3 : a = i + 1
          · rw [if_pos h3, if_neg (by omega)]; rfl
          · rw [if_neg h3])
    rw [e]
    exact hr
  | succ d ih =>
    intro k hk
    refine Ev_succ ?_
    simp only [maxplus_product.l1, length_mat, length_tab]
    simp (disch := omega) only [if_pos, rd1_mat, rd_tab, Int.toNat_natCast, wr, length_tab]
    exact product_l2 hA hB hn hp hm hf hg i k hi (by omega) r (ih (k + 1) (by omega)) m 0 (by omega)
theorem product_l0 (d : Nat) : ∀ i : Nat, i + d = n →
    Ev (fun q => maxplus_product.l0 q (mat p m g) (mat n m (part p f g i 0 0)) (mat n p f) (n : Int) (i : Int)) (mat n m (mp p f g)) := by
  induction d with
  | zero =>
    intro i hi
    refine Ev_succ ?_
    simp only [maxplus_product.l0]
    simp (disch := omega) only [if_neg]
    have e : mat n m (part p f g i 0 0) = mat n m (mp p f g) := mat_congr (fun a b ha hb => by unfold part; rw [if_pos (by omega)])
    rw [e]
    exact Ev.now _
  | succ d ih =>
    intro i hi
    refine Ev_succ ?_
    simp only [maxplus_product.l0, length_mat]
    simp (disch := omega) only [if_pos, rd1_mat, Int.toNat_natCast, length_tab]
    exact product_l1 hA hB hn hp hm hf hg i (by omega) _ (ih (i + 1) (by omega)) p 0 (by omega)
include hp0
theorem product_f : Ev (fun q => maxplus_product.f q (mat n p f) (mat p m g)) (mat n m (mp p f g)) := by
  unfold maxplus_product.f
  simp only [length_mat]
  simp (disch := omega) only [if_pos, rd1_mat, length_tab]
  refine Ev.bind (matrix_f n m hn hm) ?_
  have e : mat n m (fun _ _ => NV) = mat n m (part p f g 0 0 0) := mat_congr (fun a b _ _ => by
    unfold part
    rw [if_neg (by omega)]
    by_cases h : a = 0
    · rw [if_pos h, if_neg (by omega)]; rfl
    · rw [if_neg h])
  rw [e]
  exact product_l0 hA hB hn hp hm hf hg n 0 (by omega)
end
theorem mul_f {A B : Int} {n : Nat} {f g : Nat → Nat → Int} (h1 : 1 ≤ n) (hn : n ≤ 12) (hf : bd A n n f) (hg : bd B n n g) (hA : A ≤ 1000000000) (hB : B ≤ 1000000000) : Ev (fun k => maxplus_Mul.f k (mat n n f) (mat n n g)) (mat n n (mp n f g), 0) := by
  unfold maxplus_Mul.f
  refine Ev.bind (check_f n h1 hn f (bd_mono hf (by omega))) ?_
  simp only [if_true]
  refine Ev.bind (check_f n h1 hn g (bd_mono hg (by omega))) ?_
  simp only [if_true, length_mat, bne_self_eq_false]
  refine Ev_succ ?_
  simp only [maxplus_Mul.j0, Bool.false_eq_true, if_false]
  refine Ev.bind (product_f (by omega) (by omega) hn h1 hn hn hf hg) ?_
  refine Ev.bind (fits_f n n hn hn _ (bd_mono (bd_mp hf hg) (by omega))) ?_
  simp only [if_true]
  exact Ev.now _

theorem same_loop (l : List Int) (hl : l.length ≤ 1000000) (d : Nat) : ∀ i : Nat, i + d = l.length → Ev (fun k => railplankeep_Same_int.l0 k l l (l.length : Int) (i : Int)) true := by
  induction d with
  | zero =>
    intro i hi
    refine Ev_succ ?_
    simp only [railplankeep_Same_int.l0]
    simp (disch := omega) only [if_neg]
    exact Ev.now _
  | succ d ih =>
    intro i hi
    refine Ev_succ ?_
    simp only [railplankeep_Same_int.l0]
    simp (disch := omega) only [if_pos, wr, if_true]
    rw [show (i : Int) + 1 = ((i + 1 : Nat) : Int) by omega]
    exact ih (i + 1) (by omega)
theorem same_f (l : List Int) (hl : l.length ≤ 1000000) : Ev (fun k => railplankeep_Same_int.f k l l) true := by
  unfold railplankeep_Same_int.f
  simp only [if_true]
  exact same_loop l hl l.length 0 (by omega)
theorem samelists_loop (l : List (List Int)) (hl : l.length ≤ 1000000) (hr : ∀ r ∈ l, r.length ≤ 1000000) (d : Nat) : ∀ i : Nat, i + d = l.length → Ev (fun k => railplankeep_SameLists_int.l0 k l l (l.length : Int) (i : Int)) true := by
  induction d with
  | zero =>
    intro i hi
    refine Ev_succ ?_
    simp only [railplankeep_SameLists_int.l0]
    simp (disch := omega) only [if_neg]
    exact Ev.now _
  | succ d ih =>
    intro i hi
    refine Ev_succ ?_
    simp only [railplankeep_SameLists_int.l0]
    simp (disch := omega) only [if_pos, wr]
    refine Ev.bind (same_f _ (hr _ (by
      unfold rd_L1
      rw [List.getD_eq_getElem?_getD, List.getElem?_eq_getElem (by omega)]
      exact List.getElem_mem _))) ?_
    simp only [if_true]
    rw [show (i : Int) + 1 = ((i + 1 : Nat) : Int) by omega]
    exact ih (i + 1) (by omega)
theorem samelists_f (l : List (List Int)) (hl : l.length ≤ 1000000) (hr : ∀ r ∈ l, r.length ≤ 1000000) : Ev (fun k => railplankeep_SameLists_int.f k l l) true := by
  unfold railplankeep_SameLists_int.f
  simp only [if_true]
  exact samelists_loop l hl hr l.length 0 (by omega)
theorem samemat_f (n m : Nat) (hn : n ≤ 12) (hm : m ≤ 12) (f : Nat → Nat → Int) : Ev (fun k => railplankeep_SameLists_int.f k (mat n m f) (mat n m f)) true :=
  samelists_f _ (by rw [length_mat]; omega) (fun r hr => by
    obtain ⟨i, _, rfl⟩ := List.mem_map.1 hr
    rw [length_tab]; omega)

theorem power_loop {B : Int} {n : Nat} {f : Nat → Nat → Int} (h1 : 1 ≤ n) (hn : n ≤ 12) (hB0 : 0 ≤ B) (hB : B ≤ 10000) (hf : bd B n n f) (K : Nat) (hK : K ≤ 1000) (d : Nat) : ∀ k : Nat, k + d = K →
    Ev (fun q => maxplus_Power.l1 q (mat n n f) (mat n n (pw n f k)) (K : Int) (k : Int)) (mat n n (pw n f K), 0) := by
  induction d with
  | zero =>
    intro k hk
    refine Ev_succ ?_
    simp only [maxplus_Power.l1]
    simp (disch := omega) only [if_neg]
    rw [show k = K by omega]
    exact Ev.now _
  | succ d ih =>
    intro k hk
    refine Ev_succ ?_
    simp only [maxplus_Power.l1]
    simp (disch := omega) only [if_pos, wr]
    have hb : (k : Int) * B ≤ 1000 * 10000 := Int.mul_le_mul (by omega) hB hB0 (by omega)
    refine Ev.bind (mul_f h1 hn (bd_pw hf k) hf (by omega) (by omega)) ?_
    simp only [if_true]
    rw [show (k : Int) + 1 = ((k + 1 : Nat) : Int) by omega]
    exact ih (k + 1) (by omega)
theorem power_f {B : Int} {n : Nat} {f : Nat → Nat → Int} (h1 : 1 ≤ n) (hn : n ≤ 12) (hB0 : 0 ≤ B) (hB : B ≤ 10000) (hf : bd B n n f) (K : Nat) (hK : K ≤ 1000) : Ev (fun q => maxplus_Power.f q (mat n n f) (K : Int)) (mat n n (pw n f K), 0) := by
  unfold maxplus_Power.f
  refine Ev.bind (check_f n h1 hn f (bd_mono hf (by omega))) ?_
  simp only [if_true]
  simp (disch := omega) only [if_neg]
  rw [decide_eq_false (by omega)]
  refine Ev_succ ?_
  simp only [maxplus_Power.j0, Bool.false_eq_true, if_false, length_mat]
  refine Ev.bind (matrix_f n n hn hn) ?_
  rw [length_mat]
  have diag : ∀ d i : Nat, i + d = n → Ev (fun q => maxplus_Power.l0 q (mat n n f) (K : Int) (mat n n (fun a b => if a = b ∧ a < i then 0 else NV)) (n : Int) (i : Int)) (mat n n (pw n f K), 0) := by
    intro d
    induction d with
    | zero =>
      intro i hi
      refine Ev_succ ?_
      simp only [maxplus_Power.l0]
      simp (disch := omega) only [if_neg]
      have e : mat n n (fun a b => if a = b ∧ a < i then 0 else NV) = mat n n (pw n f 0) := mat_congr (fun a b ha _ => by
        show _ = un a b
        unfold un
        by_cases h : a = b
        · rw [if_pos ⟨h, by omega⟩, if_pos h]
        · rw [if_neg (fun h2 => h h2.1), if_neg h])
      rw [e]
      exact power_loop h1 hn hB0 hB hf K hK K 0 (by omega)
    | succ d ih =>
      intro i hi
      refine Ev_succ ?_
      simp only [maxplus_Power.l0, length_mat]
      simp (disch := omega) only [if_pos, rd1_mat, Int.toNat_natCast, length_tab, wr]
      rw [set_mat, show (i : Int) + 1 = ((i + 1 : Nat) : Int) by omega]
      have e : mat n n (fun a b => if a = i ∧ b = i then 0 else if a = b ∧ a < i then 0 else NV) = mat n n (fun a b => if a = b ∧ a < i + 1 then 0 else NV) := mat_congr (fun a b ha _ => by
        by_cases h : a = i ∧ b = i
        · rw [if_pos h, if_pos (by omega)]
        · rw [if_neg h]
          by_cases h2 : a = b ∧ a < i
          · rw [if_pos h2, if_pos (by omega)]
          · rw [if_neg h2, if_neg (by omega)])
      rw [e]
      exact ih (i + 1) (by omega)
  have h := diag n 0 (by omega)
  have e : mat n n (fun a b => if a = b ∧ a < 0 then 0 else NV) = mat n n (fun _ _ => NV) := mat_congr (fun a b _ _ => if_neg (by omega))
  rw [e, show ((0 : Nat) : Int) = 0 from rfl] at h
  exact h

theorem awake_f : Ev (fun k => railplanlaw33_awake.f k) true := Ev.of (fun k => railplanlaw33_awake.mono k) (k := 40) (by decide +kernel)

theorem tb (P : Prop) : ∃ b : Bool, b = true ↔ P := by classical exact ⟨decide P, by simp⟩
theorem eq_false_of {b : Bool} {P : Prop} (h : b = true ↔ P) (n : ¬ P) : b = false := by
  cases b
  · rfl
  · exact absurd (h.1 rfl) n
theorem rd_getD (x : List Int) (j : Nat) : rd x (j : Int) = x.getD j 0 := by unfold rd; rw [Int.toNat_natCast]
theorem rd1_getD (x : List (List Int)) (j : Nat) : rd_L1 x (j : Int) = x.getD j [] := by unfold rd_L1; rw [Int.toNat_natCast]
theorem entry_n (x : Int) (h : ¬ en 68719476736 x) : maxplus_entry.f x = some false := by
  unfold en NV at h
  unfold maxplus_entry.f
  rw [if_neg (by omega)]
  by_cases h1 : x ≥ -68719476736
  · rw [if_pos h1, decide_eq_false (by omega)]
  · rw [if_neg h1]
theorem rentry_f (x : Int) (h : en 68719476736 x) : railplanref30_entry.f x = some true := by
  unfold en NV at h
  unfold railplanref30_entry.f
  by_cases h1 : x = -1125899906842624
  · rw [if_pos h1]
  · rw [if_neg h1, if_pos (by omega), decide_eq_true (by omega)]
theorem rentry_n (x : Int) (h : ¬ en 68719476736 x) : railplanref30_entry.f x = some false := by
  unfold en NV at h
  unfold railplanref30_entry.f
  rw [if_neg (by omega)]
  by_cases h1 : x ≥ -68719476736
  · rw [if_pos h1, decide_eq_false (by omega)]
  · rw [if_neg h1]
/-- A valid vector for n. -/
def VOK (n : Int) (x : List Int) : Prop := (∀ i, 0 ≤ i → i < x.length → en 68719476736 (x.getD i 0)) ∧ (x.length : Int) = n ∧ 1 ≤ n ∧ n ≤ 12
theorem vec_loop (n : Int) (x : List Int) (hx : x.length ≤ 17592186044416) (b : Bool) (d : Nat) : ∀ j : Nat, j + d = x.length → (b = true ↔ (∀ i, j ≤ i → i < x.length → en 68719476736 (x.getD i 0)) ∧ (x.length : Int) = n ∧ 1 ≤ n ∧ n ≤ 12) →
    Ev (fun k => maxplus_Vector.l0 k n x x (x.length : Int) (j : Int)) b := by
  induction d with
  | zero =>
    intro j hj hb
    refine Ev_succ ?_
    simp only [maxplus_Vector.l0]
    simp only [if_neg (show ¬ ((j : Int) < (x.length : Int)) by omega)]
    have e : (if (x.length : Int) = n then (if n ≥ 1 then (some (decide (n ≤ 12))) else (some false)) else (some false)) = some b := by
      by_cases c1 : (x.length : Int) = n
      · rw [if_pos c1]
        by_cases c2 : n ≥ 1
        · rw [if_pos c2]
          congr 1
          rw [Bool.eq_iff_iff, decide_eq_true_iff, hb]
          exact ⟨fun h => ⟨fun i h1 h2 => by omega, c1, c2, h⟩, fun h => h.2.2.2⟩
        · rw [if_neg c2, eq_false_of hb (fun h => c2 h.2.2.1)]
      · rw [if_neg c1, eq_false_of hb (fun h => c1 h.2.1)]
    rw [e]
    exact Ev.now _
  | succ d ih =>
    intro j hj hb
    refine Ev_succ ?_
    simp only [maxplus_Vector.l0]
    simp only [if_pos (show (j : Int) < (x.length : Int) by omega), if_pos (show (0 : Int) ≤ (j : Int) by omega), rd_getD]
    by_cases h : en 68719476736 (x.getD j 0)
    · rw [entry_f _ h]
      simp only [obind, if_true]
      rw [wr (by omega) (by omega), show (j : Int) + 1 = ((j + 1 : Nat) : Int) by omega]
      refine ih (j + 1) (by omega) (hb.trans ⟨fun g => ⟨fun i h1 h2 => g.1 i (by omega) h2, g.2⟩, fun g => ⟨fun i h1 h2 => ?_, g.2⟩⟩)
      rcases Nat.eq_or_lt_of_le h1 with h3 | h3
      · rw [← h3]; exact h
      · exact g.1 i h3 h2
    · rw [entry_n _ h]
      simp only [obind, Bool.false_eq_true, if_false]
      rw [eq_false_of hb (fun g => h (g.1 j (by omega) (by omega)))]
      exact Ev.now _
theorem vec_any {n : Int} {x : List Int} {b : Bool} (hx : x.length ≤ 17592186044416) (hb : b = true ↔ VOK n x) : Ev (fun k => maxplus_Vector.f k n x) b := by
  unfold maxplus_Vector.f
  exact vec_loop n x hx b x.length 0 (by omega) hb
theorem rvec_loop (x : List Int) (hx : x.length ≤ 17592186044416) (b : Bool) (d : Nat) : ∀ j : Nat, j + d = x.length → (b = true ↔ (∀ i, j ≤ i → i < x.length → en 68719476736 (x.getD i 0))) →
    Ev (fun k => railplanref30_Vector.l0 k x (x.length : Int) (j : Int)) b := by
  induction d with
  | zero =>
    intro j hj hb
    refine Ev_succ ?_
    simp only [railplanref30_Vector.l0]
    simp only [if_neg (show ¬ ((j : Int) < (x.length : Int)) by omega)]
    rw [hb.2 (fun i h1 h2 => by omega)]
    exact Ev.now _
  | succ d ih =>
    intro j hj hb
    refine Ev_succ ?_
    simp only [railplanref30_Vector.l0]
    simp only [if_pos (show (j : Int) < (x.length : Int) by omega), if_pos (show (0 : Int) ≤ (j : Int) by omega), rd_getD]
    by_cases h : en 68719476736 (x.getD j 0)
    · rw [rentry_f _ h]
      simp only [obind, if_true]
      rw [wr (by omega) (by omega), show (j : Int) + 1 = ((j + 1 : Nat) : Int) by omega]
      refine ih (j + 1) (by omega) (hb.trans ⟨fun g i h1 h2 => g i (by omega) h2, fun g i h1 h2 => ?_⟩)
      rcases Nat.eq_or_lt_of_le h1 with h3 | h3
      · rw [← h3]; exact h
      · exact g i h3 h2
    · rw [rentry_n _ h]
      simp only [obind, Bool.false_eq_true, if_false]
      rw [eq_false_of hb (fun g => h (g j (by omega) (by omega)))]
      exact Ev.now _
theorem rvec_any {n : Int} {x : List Int} {b : Bool} (hx : x.length ≤ 17592186044416) (hb : b = true ↔ VOK n x) : Ev (fun k => railplanref30_Vector.f k n x) b := by
  unfold railplanref30_Vector.f
  have no : ¬ VOK n x → Ev (fun k => railplanref30_Vector.j0 k x true) b := fun h => by
    refine Ev_succ ?_
    simp only [railplanref30_Vector.j0, if_true]
    rw [eq_false_of hb h]
    exact Ev.now _
  by_cases c1 : (x.length : Int) = n
  · simp only [if_pos c1]
    by_cases c2 : n < 1
    · simp only [if_pos c2]
      exact no (fun h => by have := h.2.2.1; omega)
    · simp only [if_neg c2]
      by_cases c3 : n > 12
      · simp only [decide_eq_true c3]
        exact no (fun h => by have := h.2.2.2; omega)
      · simp only [decide_eq_false c3]
        refine Ev_succ ?_
        simp only [railplanref30_Vector.j0, Bool.false_eq_true, if_false]
        exact rvec_loop x hx b x.length 0 (by omega) (hb.trans ⟨fun h => h.1, fun h => ⟨h, c1, by omega, by omega⟩⟩)
  · simp only [if_neg c1]
    exact no (fun h => c1 h.2.1)
/-- A valid matrix. -/
def COK (a : List (List Int)) : Prop := (∀ i, 0 ≤ i → i < a.length → VOK (a.length : Int) (a.getD i [])) ∧ 1 ≤ a.length ∧ a.length ≤ 12
/-- Lists of a length that there is. -/
def SMALL (a : List (List Int)) : Prop := a.length ≤ 12 ∧ ∀ i, i < a.length → (a.getD i []).length ≤ 12
theorem chk_loop (a : List (List Int)) (ha : SMALL a) (b : Bool) (d : Nat) : ∀ j : Nat, j + d = a.length → (b = true ↔ (∀ i, j ≤ i → i < a.length → VOK (a.length : Int) (a.getD i [])) ∧ 1 ≤ a.length ∧ a.length ≤ 12) →
    Ev (fun k => maxplus_Check.l0 k a a (a.length : Int) (j : Int)) b := by
  have hl := ha.1
  induction d with
  | zero =>
    intro j hj hb
    refine Ev_succ ?_
    simp only [maxplus_Check.l0]
    simp only [if_neg (show ¬ ((j : Int) < (a.length : Int)) by omega)]
    by_cases c2 : (a.length : Int) ≥ 1
    · rw [if_pos c2, decide_eq_true (by omega), hb.2 ⟨fun i h1 h2 => by omega, by omega, by omega⟩]
      exact Ev.now _
    · rw [if_neg c2, eq_false_of hb (fun h => by omega)]
      exact Ev.now _
  | succ d ih =>
    intro j hj hb
    refine Ev_succ ?_
    simp only [maxplus_Check.l0]
    simp only [if_pos (show (j : Int) < (a.length : Int) by omega), if_pos (show (0 : Int) ≤ (j : Int) by omega), rd1_getD]
    obtain ⟨c, hc⟩ := tb (VOK (a.length : Int) (a.getD j []))
    refine Ev.bind (vec_any (by have := ha.2 j (by omega); omega) hc) ?_
    by_cases h : VOK (a.length : Int) (a.getD j [])
    · rw [hc.2 h]
      simp only [if_true]
      rw [wr (by omega) (by omega), show (j : Int) + 1 = ((j + 1 : Nat) : Int) by omega]
      refine ih (j + 1) (by omega) (hb.trans ⟨fun g => ⟨fun i h1 h2 => g.1 i (by omega) h2, g.2⟩, fun g => ⟨fun i h1 h2 => ?_, g.2⟩⟩)
      rcases Nat.eq_or_lt_of_le h1 with h3 | h3
      · rw [← h3]; exact h
      · exact g.1 i h3 h2
    · rw [eq_false_of hc h]
      simp only [Bool.false_eq_true, if_false]
      rw [eq_false_of hb (fun g => h (g.1 j (by omega) (by omega)))]
      exact Ev.now _
theorem chk_any {a : List (List Int)} {b : Bool} (ha : SMALL a) (hb : b = true ↔ COK a) : Ev (fun k => maxplus_Check.f k a) b := by
  unfold maxplus_Check.f
  exact chk_loop a ha b a.length 0 (by omega) hb
theorem rchk_loop (a : List (List Int)) (ha : SMALL a) (b : Bool) (d : Nat) : ∀ j : Nat, j + d = a.length → (b = true ↔ (∀ i, j ≤ i → i < a.length → VOK (a.length : Int) (a.getD i []))) →
    Ev (fun k => railplanref30_CheckMatrix.l0 k (a.length : Int) a (a.length : Int) (j : Int)) b := by
  have hl := ha.1
  induction d with
  | zero =>
    intro j hj hb
    refine Ev_succ ?_
    simp only [railplanref30_CheckMatrix.l0]
    simp only [if_neg (show ¬ ((j : Int) < (a.length : Int)) by omega)]
    rw [hb.2 (fun i h1 h2 => by omega)]
    exact Ev.now _
  | succ d ih =>
    intro j hj hb
    refine Ev_succ ?_
    simp only [railplanref30_CheckMatrix.l0]
    simp only [if_pos (show (j : Int) < (a.length : Int) by omega), if_pos (show (0 : Int) ≤ (j : Int) by omega), rd1_getD]
    obtain ⟨c, hc⟩ := tb (VOK (a.length : Int) (a.getD j []))
    refine Ev.bind (rvec_any (by have := ha.2 j (by omega); omega) hc) ?_
    by_cases h : VOK (a.length : Int) (a.getD j [])
    · rw [hc.2 h]
      simp only [if_true]
      rw [wr (by omega) (by omega), show (j : Int) + 1 = ((j + 1 : Nat) : Int) by omega]
      refine ih (j + 1) (by omega) (hb.trans ⟨fun g i h1 h2 => g i (by omega) h2, fun g i h1 h2 => ?_⟩)
      rcases Nat.eq_or_lt_of_le h1 with h3 | h3
      · rw [← h3]; exact h
      · exact g i h3 h2
    · rw [eq_false_of hc h]
      simp only [Bool.false_eq_true, if_false]
      rw [eq_false_of hb (fun g => h (g j (by omega) (by omega)))]
      exact Ev.now _
theorem rchk_any {a : List (List Int)} {b : Bool} (ha : SMALL a) (hb : b = true ↔ COK a) : Ev (fun k => railplanref30_CheckMatrix.f k a) b := by
  unfold railplanref30_CheckMatrix.f
  have hl := ha.1
  by_cases c2 : (a.length : Int) < 1
  · simp only [if_pos c2]
    refine Ev_succ ?_
    simp only [railplanref30_CheckMatrix.j0, if_true]
    rw [eq_false_of hb (fun h => by have := h.2.1; omega)]
    exact Ev.now _
  · simp only [if_neg c2, decide_eq_false (show ¬ ((a.length : Int) > 12) by omega)]
    refine Ev_succ ?_
    simp only [railplanref30_CheckMatrix.j0, Bool.false_eq_true, if_false]
    exact rchk_loop a ha b a.length 0 (by omega) (hb.trans ⟨fun h => h.1, fun h => ⟨h, by omega, by omega⟩⟩)
theorem getD_mat (n m : Nat) (f : Nat → Nat → Int) (i : Nat) (h : i < n) : (mat n m f).getD i [] = tab m (f i) := getD_tab n _ [] i h
theorem small_mat (n m : Nat) (f : Nat → Nat → Int) (hn : n ≤ 12) (hm : m ≤ 12) : SMALL (mat n m f) :=
  ⟨by rw [length_mat]; omega, fun i hi => by rw [length_mat] at hi; rw [getD_mat n m f i hi, length_tab]; omega⟩
theorem small_nil : SMALL [] := ⟨by simp, fun i hi => by simp at hi⟩
theorem vok_tab (n : Nat) (x : Nat → Int) (h1 : 1 ≤ n) (hn : n ≤ 12) : VOK (n : Int) (tab n x) ↔ ∀ i, i < n → en 68719476736 (x i) := by
  unfold VOK
  rw [length_tab]
  constructor
  · intro h i hi
    have := h.1 i (by omega) hi
    rw [getD_tab n x 0 i hi] at this
    exact this
  · intro h
    exact ⟨fun i _ hi => by rw [getD_tab n x 0 i hi]; exact h i hi, rfl, by omega, by omega⟩
theorem cok_mat (n : Nat) (f : Nat → Nat → Int) (h1 : 1 ≤ n) (hn : n ≤ 12) : COK (mat n n f) ↔ bd 68719476736 n n f := by
  unfold COK
  rw [length_mat]
  constructor
  · intro h i j hi hj
    have := h.1 i (by omega) hi
    rw [getD_mat n n f i hi, vok_tab n _ h1 hn] at this
    exact this j hj
  · intro h
    exact ⟨fun i _ hi => by rw [getD_mat n n f i hi, vok_tab n _ h1 hn]; exact fun j hj => h i j hi hj, h1, hn⟩
theorem of_vok {n : Nat} {x : List Int} (h : VOK (n : Int) x) : ∃ g : Nat → Int, x = tab n g ∧ (∀ j, j < n → en 68719476736 (g j)) ∧ 1 ≤ n ∧ n ≤ 12 := by
  obtain ⟨h1, h2, h3, h4⟩ := h
  have e : x.length = n := by omega
  have := eq_tab x (0 : Int)
  rw [e] at this
  exact ⟨_, this, fun j hj => h1 j (by omega) (by omega), by omega, by omega⟩
theorem of_cok {a : List (List Int)} (h : COK a) : ∃ f, a = mat a.length a.length f ∧ bd 68719476736 a.length a.length f ∧ 1 ≤ a.length ∧ a.length ≤ 12 := by
  have hr : ∀ r ∈ a, r.length = a.length := by
    intro r hr
    obtain ⟨i, hi, rfl⟩ := List.getElem_of_mem hr
    have := (h.1 i (by omega) hi).2.1
    rw [List.getD_eq_getElem?_getD, List.getElem?_eq_getElem hi] at this
    exact Int.ofNat_inj.1 this
  have e := eq_mat a a.length a.length rfl hr
  refine ⟨_, e, fun i j hi hj => (h.1 i (by omega) hi).1 j (by omega) (by have := (h.1 i (by omega) hi).2.1; omega), h.2.1, h.2.2⟩
theorem same_small {l : List (List Int)} (h : SMALL l) : Ev (fun k => railplankeep_SameLists_int.f k l l) true :=
  samelists_f l (by have := h.1; omega) (fun r hr => by
    obtain ⟨i, hi, rfl⟩ := List.getElem_of_mem hr
    have := h.2 i hi
    rw [List.getD_eq_getElem?_getD, List.getElem?_eq_getElem hi] at this
    have e : (some l[i]).getD [] = l[i] := rfl
    rw [e] at this
    omega)

theorem fits_any (n m : Nat) (hn : n ≤ 12) (hm : m ≤ 12) (f : Nat → Nat → Int) (b : Bool) (hb : b = true ↔ bd 68719476736 n m f) : Ev (fun k => maxplus_fits.f k (mat n m f)) b := by
  have out : ∀ d i : Nat, i + d = n → (b = true ↔ ∀ x y, i ≤ x → x < n → y < m → en 68719476736 (f x y)) → Ev (fun k => maxplus_fits.l0 k (mat n m f) (n : Int) (i : Int)) b := by
    intro d
    induction d with
    | zero =>
      intro i hi hb
      refine Ev_succ ?_
      simp only [maxplus_fits.l0]
      simp only [if_neg (show ¬ ((i : Int) < (n : Int)) by omega)]
      rw [hb.2 (fun x y h1 h2 => by omega)]
      exact Ev.now _
    | succ d ih =>
      intro i hi hb
      refine Ev_succ ?_
      simp only [maxplus_fits.l0, length_mat]
      simp (disch := omega) only [if_pos, rd1_mat, Int.toNat_natCast, length_tab]
      have inner : ∀ e j : Nat, j + e = m → (b = true ↔ (∀ y, j ≤ y → y < m → en 68719476736 (f i y)) ∧ ∀ x y, i + 1 ≤ x → x < n → y < m → en 68719476736 (f x y)) → Ev (fun k => maxplus_fits.l1 k (mat n m f) (n : Int) (i : Int) (tab m (f i)) (m : Int) (j : Int)) b := by
        intro e
        induction e with
        | zero =>
          intro j hj hb
          refine Ev_succ ?_
          simp only [maxplus_fits.l1]
          simp (disch := omega) only [if_neg, wr]
          rw [show (i : Int) + 1 = ((i + 1 : Nat) : Int) by omega]
          exact ih (i + 1) (by omega) (hb.trans ⟨fun g => g.2, fun g => ⟨fun y h1 h2 => by omega, g⟩⟩)
        | succ e ih2 =>
          intro j hj hb
          refine Ev_succ ?_
          simp only [maxplus_fits.l1, length_tab]
          simp (disch := omega) only [if_pos, rd_tab, Int.toNat_natCast, wr]
          by_cases h : en 68719476736 (f i j)
          · rw [entry_f _ h]
            simp only [obind, if_true]
            rw [show (j : Int) + 1 = ((j + 1 : Nat) : Int) by omega]
            refine ih2 (j + 1) (by omega) (hb.trans ⟨fun g => ⟨fun y h1 h2 => g.1 y (by omega) h2, g.2⟩, fun g => ⟨fun y h1 h2 => ?_, g.2⟩⟩)
            rcases Nat.eq_or_lt_of_le h1 with h3 | h3
            · rw [← h3]; exact h
            · exact g.1 y h3 h2
          · rw [entry_n _ h]
            simp only [obind, Bool.false_eq_true, if_false]
            rw [eq_false_of hb (fun g => h (g.1 j (by omega) (by omega)))]
            exact Ev.now _
      refine inner m 0 (by omega) (hb.trans ⟨fun g => ⟨fun y _ h2 => g i y (by omega) (by omega) h2, fun x y h1 h2 h3 => g x y (by omega) h2 h3⟩, fun g x y h1 h2 h3 => ?_⟩)
      rcases Nat.eq_or_lt_of_le h1 with h4 | h4
      · rw [← h4]; exact g.1 y (by omega) h3
      · exact g.2 x y h4 h2 h3
  unfold maxplus_fits.f
  rw [length_mat]
  exact out n 0 (by omega) (hb.trans ⟨fun g x y _ h2 h3 => g x y h2 h3, fun g x y h2 h3 => g x y (by omega) h2 h3⟩)
theorem plus_f {A B x y : Int} (hx : en A x) (hy : en B y) (hA : A ≤ 1000000000000000) (hB : B ≤ 1000000000000000) : railplanref30_plus.f x y = some (sm x y) := by
  unfold en NV at hx hy
  unfold railplanref30_plus.f sm NV
  by_cases h1 : x = -1125899906842624
  · rw [if_pos h1, if_pos h1]
  · rw [if_neg h1, if_neg h1]
    by_cases h2 : y = -1125899906842624
    · rw [if_pos h2, if_pos h2]
    · rw [if_neg h2, if_neg h2, wr (by omega) (by omega)]
theorem raw_f {A B : Int} {n : Nat} {f g : Nat → Nat → Int} (hA : A ≤ 1000000000000000) (hB : B ≤ 1000000000000000) (hn : n ≤ 12) (hf : bd A n n f) (hg : bd B n n g) :
    Ev (fun q => railplanref30_raw.f q (mat n n f) (mat n n g)) (mat n n (mp n f g)) := by
  have l0 : ∀ d i : Nat, i + d = n → Ev (fun q => railplanref30_raw.l0 q (mat n n f) (mat n n g) (tab i (fun i => tab n (mp n f g i))) (n : Int) (i : Int)) (mat n n (mp n f g)) := by
    intro d
    induction d with
    | zero =>
      intro i hi
      refine Ev_succ ?_
      simp only [railplanref30_raw.l0]
      simp (disch := omega) only [if_neg]
      rw [show i = n by omega]
      exact Ev.now _
    | succ d ih =>
      intro i hi
      refine Ev_succ ?_
      simp only [railplanref30_raw.l0, length_mat]
      simp only [if_pos (show (i : Int) < (n : Int) by omega)]
      have l1 : ∀ d j : Nat, j + d = n → Ev (fun q => railplanref30_raw.l1 q (mat n n f) (mat n n g) (tab i (fun i => tab n (mp n f g i))) (i : Int) (tab j (mp n f g i)) (n : Int) (i : Int) (n : Int) (j : Int)) (mat n n (mp n f g)) := by
        intro d2
        induction d2 with
        | zero =>
          intro j hj
          refine Ev_succ ?_
          simp only [railplanref30_raw.l1, length_tab]
          simp (disch := omega) only [if_neg, if_pos, wr]
          rw [show j = n by omega, show (i : Int) + 1 = ((i + 1 : Nat) : Int) by omega]
          have := ih (i + 1) (by omega)
          rw [tab_succ] at this
          exact this
        | succ d2 ih2 =>
          intro j hj
          refine Ev_succ ?_
          simp only [railplanref30_raw.l1, length_mat]
          simp only [if_pos (show (j : Int) < (n : Int) by omega)]
          have l2 : ∀ d k : Nat, k + d = n → Ev (fun q => railplanref30_raw.l2 q (mat n n f) (mat n n g) (tab i (fun i => tab n (mp n f g i))) (i : Int) (tab j (mp n f g i)) (j : Int) (mxr (fun k => sm (f i k) (g k j)) k) (n : Int) (i : Int) (n : Int) (j : Int) (n : Int) (k : Int)) (mat n n (mp n f g)) := by
            intro d3
            induction d3 with
            | zero =>
              intro k hk
              refine Ev_succ ?_
              simp only [railplanref30_raw.l2, length_tab]
              simp (disch := omega) only [if_neg, if_pos, wr]
              rw [show k = n by omega, show (j : Int) + 1 = ((j + 1 : Nat) : Int) by omega]
              have := ih2 (j + 1) (by omega)
              rw [tab_succ] at this
              exact this
            | succ d3 ih3 =>
              intro k hk
              refine Ev_succ ?_
              simp only [railplanref30_raw.l2, length_mat]
              simp (disch := omega) only [if_pos, rd1_mat, rd_tab, Int.toNat_natCast, wr, length_tab]
              rw [plus_f (hf i k (by omega) (by omega)) (hg k j (by omega) (by omega)) hA hB]
              simp only [obind]
              rw [mx_eq, show (k : Int) + 1 = ((k + 1 : Nat) : Int) by omega]
              exact ih3 (k + 1) (by omega)
          exact l2 n 0 (by omega)
      exact l1 n 0 (by omega)
  unfold railplanref30_raw.f
  rw [length_mat]
  exact l0 n 0 (by omega)
/-- Both products of arbitrary lists. -/
theorem mul_any (a b : List (List Int)) (ha : SMALL a) (hb : SMALL b) : ∃ r : List (List Int) × Int, Ev (fun k => maxplus_Mul.f k a b) r ∧ Ev (fun k => railplanref30_Mul.f k a b) r ∧ SMALL r.1 ∧ (r.2 = 0 → COK r.1 ∧ r.1.length = a.length) := by
  obtain ⟨c, hc⟩ := tb (COK a)
  obtain ⟨c', hc'⟩ := tb (COK b)
  have no1 : Ev (fun k => maxplus_Mul.j0 k a b true) (([] : List (List Int)), 1) := by
    refine Ev_succ ?_
    simp only [maxplus_Mul.j0, if_true]
    exact Ev.now _
  have no2 : Ev (fun k => railplanref30_Mul.j0 k a b true) (([] : List (List Int)), 1) := by
    refine Ev_succ ?_
    simp only [railplanref30_Mul.j0, if_true]
    exact Ev.now _
  by_cases h1 : COK a
  · by_cases h2 : COK b
    · by_cases h3 : a.length = b.length
      · obtain ⟨f, ef, bf, l1, l2⟩ := of_cok h1
        obtain ⟨g, eg, bg, _, _⟩ := of_cok h2
        rw [← h3] at eg bg
        generalize hn : a.length = n at *
        subst ef eg
        obtain ⟨q, hq⟩ := tb (bd 68719476736 n n (mp n f g))
        refine ⟨if q = true then (mat n n (mp n f g), 0) else ([], 8), ?_, ?_, ?_, ?_⟩
        · unfold maxplus_Mul.f
          refine Ev.bind (chk_any ha hc) ?_
          simp only [hc.2 h1, if_true]
          refine Ev.bind (chk_any hb hc') ?_
          simp only [hc'.2 h2, if_true]
          simp only [length_mat, bne_self_eq_false]
          refine Ev_succ ?_
          simp only [maxplus_Mul.j0, Bool.false_eq_true, if_false]
          refine Ev.bind (product_f (by omega) (by omega) l2 l1 l2 l2 bf bg) ?_
          refine Ev.bind (fits_any n n l2 l2 _ q hq) ?_
          cases q
          · exact Ev.now _
          · exact Ev.now _
        · unfold railplanref30_Mul.f
          refine Ev.bind (rchk_any ha hc) ?_
          simp only [hc.2 h1, if_true]
          refine Ev.bind (rchk_any hb hc') ?_
          simp only [hc'.2 h2, if_true]
          simp only [length_mat, bne_self_eq_false]
          refine Ev_succ ?_
          simp only [railplanref30_Mul.j0, Bool.false_eq_true, if_false]
          refine Ev.bind (raw_f (by omega) (by omega) l2 bf bg) ?_
          refine Ev.bind (rchk_any (small_mat n n _ l2 l2) (hq.trans (cok_mat n _ l1 l2).symm)) ?_
          cases q
          · exact Ev.now _
          · exact Ev.now _
        · cases q
          · exact small_nil
          · exact small_mat n n _ l2 l2
        · cases q
          · intro h; simp at h
          · intro _; exact ⟨(cok_mat n _ l1 l2).2 (hq.1 rfl), by show (mat n n _).length = n; rw [length_mat]⟩
      · refine ⟨([], 1), ?_, ?_, small_nil, fun h => by simp at h⟩
        · unfold maxplus_Mul.f
          refine Ev.bind (chk_any ha hc) ?_
          simp only [hc.2 h1, if_true]
          refine Ev.bind (chk_any hb hc') ?_
          simp only [hc'.2 h2, if_true, show ((a.length : Int) != (b.length : Int)) = true by rw [bne_iff_ne]; omega]
          exact no1
        · unfold railplanref30_Mul.f
          refine Ev.bind (rchk_any ha hc) ?_
          simp only [hc.2 h1, if_true]
          refine Ev.bind (rchk_any hb hc') ?_
          simp only [hc'.2 h2, if_true, show ((a.length : Int) != (b.length : Int)) = true by rw [bne_iff_ne]; omega]
          exact no2
    · refine ⟨([], 1), ?_, ?_, small_nil, fun h => by simp at h⟩
      · unfold maxplus_Mul.f
        refine Ev.bind (chk_any ha hc) ?_
        simp only [hc.2 h1, if_true]
        refine Ev.bind (chk_any hb hc') ?_
        simp only [eq_false_of hc' h2, Bool.false_eq_true, if_false]
        exact no1
      · unfold railplanref30_Mul.f
        refine Ev.bind (rchk_any ha hc) ?_
        simp only [hc.2 h1, if_true]
        refine Ev.bind (rchk_any hb hc') ?_
        simp only [eq_false_of hc' h2, Bool.false_eq_true, if_false]
        exact no2
  · refine ⟨([], 1), ?_, ?_, small_nil, fun h => by simp at h⟩
    · unfold maxplus_Mul.f
      refine Ev.bind (chk_any ha hc) ?_
      simp only [eq_false_of hc h1, Bool.false_eq_true, if_false]
      exact no1
    · unfold railplanref30_Mul.f
      refine Ev.bind (rchk_any ha hc) ?_
      simp only [eq_false_of hc h1, Bool.false_eq_true, if_false]
      exact no2

theorem bd_un_any (n : Nat) : bd 68719476736 n n un := bd_mono (bd_un n) (by omega)
theorem unit_f (n : Nat) (hn : n ≤ 12) : Ev (fun q => railplanref30_unit.f q (n : Int)) (mat n n un) := by
  have l0 : ∀ d i : Nat, i + d = n → Ev (fun q => railplanref30_unit.l0 q (n : Int) (tab i (fun i => tab n (un i))) (i : Int)) (mat n n un) := by
    intro d
    induction d with
    | zero =>
      intro i hi
      refine Ev_succ ?_
      simp only [railplanref30_unit.l0]
      simp (disch := omega) only [if_neg]
      rw [show i = n by omega]
      exact Ev.now _
    | succ d ih =>
      intro i hi
      refine Ev_succ ?_
      simp only [railplanref30_unit.l0]
      have hw : ((n : Int)).toNat ≤ 35184372088832 := by omega
      simp only [if_pos (show (i : Int) < (n : Int) by omega), if_pos (show 0 ≤ (n : Int) by omega), if_pos hw, obind]
      simp only [Int.toNat_natCast, List.length_replicate]
      rw [replicate_tab]
      have l1 : ∀ d j : Nat, j + d = n → Ev (fun q => railplanref30_unit.l1 q (n : Int) (tab i (fun i => tab n (un i))) (i : Int) (tab n (fun b => if b < j then un i b else 0)) (n : Int) (j : Int)) (mat n n un) := by
        intro d2
        induction d2 with
        | zero =>
          intro j hj
          refine Ev_succ ?_
          simp only [railplanref30_unit.l1, length_tab]
          simp (disch := omega) only [if_neg, if_pos, wr]
          rw [show (i : Int) + 1 = ((i + 1 : Nat) : Int) by omega, tab_congr (g := un i) (fun b hb => if_pos (by omega))]
          have := ih (i + 1) (by omega)
          rw [tab_succ] at this
          exact this
        | succ d2 ih2 =>
          intro j hj
          refine Ev_succ ?_
          simp only [railplanref30_unit.l1, length_tab]
          simp only [if_pos (show (j : Int) < (n : Int) by omega), if_pos (show (0 : Int) ≤ (j : Int) by omega)]
          rw [wr (x := (j : Int) + 1) (by omega) (by omega), show (j : Int) + 1 = ((j + 1 : Nat) : Int) by omega]
          have h := ih2 (j + 1) (by omega)
          by_cases e : i = j
          · simp only [if_pos (show (j : Int) = (i : Int) by omega)]
            rw [tab_congr (g := fun b => if b < j + 1 then un i b else 0) (fun b hb => by
              by_cases h1 : b < j
              · rw [if_pos h1, if_pos (by omega)]
              · rw [if_neg h1]
                by_cases h2 : b = j
                · rw [if_pos (by omega), h2, e]; unfold un; rw [if_pos rfl]
                · rw [if_neg (by omega)])]
            exact h
          · simp only [if_neg (show ¬ (j : Int) = (i : Int) by omega)]
            rw [Int.toNat_natCast, set_tab]
            rw [tab_congr (g := fun b => if b < j + 1 then un i b else 0) (fun b hb => by
              by_cases h2 : b = j
              · rw [if_pos h2, if_pos (by omega), h2]; unfold un; rw [if_neg e]
              · rw [if_neg h2]
                by_cases h1 : b < j
                · rw [if_pos h1, if_pos (by omega)]
                · rw [if_neg h1, if_neg (by omega)])]
            exact h
      have h := l1 n 0 (by omega)
      rw [tab_congr (g := fun _ => (0 : Int)) (fun b hb => if_neg (by omega))] at h
      exact h
  unfold railplanref30_unit.f
  exact l0 n 0 (by omega)
theorem power_any (a : List (List Int)) (ha : SMALL a) (K : Int) (hK1 : -9223372036854775808 ≤ K) (hK2 : K ≤ 9223372036854775807) : ∃ r : List (List Int) × Int, Ev (fun k => maxplus_Power.f k a K) r ∧ Ev (fun k => railplanref30_Power.f k a K) r ∧ SMALL r.1 := by
  obtain ⟨c, hc⟩ := tb (COK a)
  by_cases h1 : COK a
  · have no1 : Ev (fun k => maxplus_Power.j0 k a K true) (([] : List (List Int)), 4) := by
      refine Ev_succ ?_
      simp only [maxplus_Power.j0, if_true]
      exact Ev.now _
    have no2 : Ev (fun k => railplanref30_Power.j0 k a K true) (([] : List (List Int)), 4) := by
      refine Ev_succ ?_
      simp only [railplanref30_Power.j0, if_true]
      exact Ev.now _
    have st : ∀ r, (Ev (fun k => if K < 0 then maxplus_Power.j0 k a K true else maxplus_Power.j0 k a K (decide (K > 3600))) r) → Ev (fun k => maxplus_Power.f k a K) r := fun r h => by
      unfold maxplus_Power.f
      refine Ev.bind (chk_any ha hc) ?_
      simp only [hc.2 h1, if_true]
      exact h
    have st2 : ∀ r, (Ev (fun k => if K < 0 then railplanref30_Power.j0 k a K true else railplanref30_Power.j0 k a K (decide (K > 3600))) r) → Ev (fun k => railplanref30_Power.f k a K) r := fun r h => by
      unfold railplanref30_Power.f
      refine Ev.bind (rchk_any ha hc) ?_
      simp only [hc.2 h1, if_true]
      exact h
    by_cases h2 : K < 0
    · refine ⟨([], 4), st _ ?_, st2 _ ?_, small_nil⟩
      · simp only [if_pos h2]; exact no1
      · simp only [if_pos h2]; exact no2
    · by_cases h3 : K > 3600
      · refine ⟨([], 4), st _ ?_, st2 _ ?_, small_nil⟩
        · simp only [if_neg h2, decide_eq_true h3]; exact no1
        · simp only [if_neg h2, decide_eq_true h3]; exact no2
      · obtain ⟨m, rfl⟩ : ∃ m : Nat, K = (m : Int) := ⟨K.toNat, by omega⟩
        have hm : m ≤ 3600 := by omega
        have run : ∀ d k : Nat, k + d = m → ∀ p : List (List Int), SMALL p → ∃ r : List (List Int) × Int, Ev (fun q => maxplus_Power.l1 q a p (m : Int) (k : Int)) r ∧ Ev (fun q => railplanref30_Power.l0 q a (d : Int) p) r ∧ SMALL r.1 := by
          intro d
          induction d with
          | zero =>
            intro k hk p hp
            refine ⟨(p, 0), ?_, ?_, hp⟩
            · refine Ev_succ ?_
              simp only [maxplus_Power.l1, if_neg (show ¬ ((k : Int) < (m : Int)) by omega)]
              exact Ev.now _
            · refine Ev_succ ?_
              simp only [railplanref30_Power.l0, if_neg (show ¬ (((0 : Nat) : Int) > 0) by omega)]
              exact Ev.now _
          | succ d ih =>
            intro k hk p hp
            obtain ⟨s, hs1, hs2, hs3, _⟩ := mul_any p a hp ha
            by_cases e : s.2 = 0
            · obtain ⟨r, hr1, hr2, hr3⟩ := ih (k + 1) (by omega) s.1 hs3
              refine ⟨r, ?_, ?_, hr3⟩
              · refine Ev_succ ?_
                simp only [maxplus_Power.l1, if_pos (show (k : Int) < (m : Int) by omega)]
                refine Ev.bind hs1 ?_
                simp only [if_pos e]
                rw [wr (by omega) (by omega), show (k : Int) + 1 = ((k + 1 : Nat) : Int) by omega]
                exact hr1
              · refine Ev_succ ?_
                simp only [railplanref30_Power.l0, if_pos (show ((d + 1 : Nat) : Int) > 0 by omega)]
                refine Ev.bind hs2 ?_
                simp only [if_pos e]
                rw [wr (by omega) (by omega), show ((d + 1 : Nat) : Int) - 1 = ((d : Nat) : Int) by omega]
                exact hr2
            · refine ⟨([], s.2), ?_, ?_, small_nil⟩
              · refine Ev_succ ?_
                simp only [maxplus_Power.l1, if_pos (show (k : Int) < (m : Int) by omega)]
                refine Ev.bind hs1 ?_
                simp only [if_neg e]
                exact Ev.now _
              · refine Ev_succ ?_
                simp only [railplanref30_Power.l0, if_pos (show ((d + 1 : Nat) : Int) > 0 by omega)]
                refine Ev.bind hs2 ?_
                simp only [if_neg e]
                exact Ev.now _
        obtain ⟨f, ef, bf, l1, l2⟩ := of_cok h1
        generalize hn : a.length = n at *
        obtain ⟨r, hr1, hr2, hr3⟩ := run m 0 (by omega) (mat n n un) (small_mat n n un l2 l2)
        refine ⟨r, st _ ?_, st2 _ ?_, hr3⟩
        · simp only [if_neg h2, decide_eq_false h3]
          refine Ev_succ ?_
          simp only [maxplus_Power.j0, Bool.false_eq_true, if_false, hn]
          refine Ev.bind (matrix_f n n l2 l2) ?_
          rw [length_mat]
          have diag : ∀ d i : Nat, i + d = n → Ev (fun q => maxplus_Power.l0 q a (m : Int) (mat n n (fun a b => if a = b ∧ a < i then 0 else NV)) (n : Int) (i : Int)) r := by
            intro d
            induction d with
            | zero =>
              intro i hi
              refine Ev_succ ?_
              simp only [maxplus_Power.l0]
              simp (disch := omega) only [if_neg]
              have e : mat n n (fun a b => if a = b ∧ a < i then 0 else NV) = mat n n un := mat_congr (fun a b ha _ => by
                unfold un
                by_cases h : a = b
                · rw [if_pos ⟨h, by omega⟩, if_pos h]
                · rw [if_neg (fun h2 => h h2.1), if_neg h])
              rw [e]
              exact hr1
            | succ d ih =>
              intro i hi
              refine Ev_succ ?_
              simp only [maxplus_Power.l0, length_mat]
              simp (disch := omega) only [if_pos, rd1_mat, Int.toNat_natCast, length_tab, wr]
              rw [set_mat, show (i : Int) + 1 = ((i + 1 : Nat) : Int) by omega]
              have e : mat n n (fun a b => if a = i ∧ b = i then 0 else if a = b ∧ a < i then 0 else NV) = mat n n (fun a b => if a = b ∧ a < i + 1 then 0 else NV) := mat_congr (fun a b ha _ => by
                by_cases h : a = i ∧ b = i
                · rw [if_pos h, if_pos (by omega)]
                · rw [if_neg h]
                  by_cases h2 : a = b ∧ a < i
                  · rw [if_pos h2, if_pos (by omega)]
                  · rw [if_neg h2, if_neg (by omega)])
              rw [e]
              exact ih (i + 1) (by omega)
          have h := diag n 0 (by omega)
          have e : mat n n (fun a b => if a = b ∧ a < 0 then 0 else NV) = mat n n (fun _ _ => NV) := mat_congr (fun a b _ _ => if_neg (by omega))
          rw [e, show ((0 : Nat) : Int) = 0 from rfl] at h
          exact h
        · simp only [if_neg h2, decide_eq_false h3]
          refine Ev_succ ?_
          simp only [railplanref30_Power.j0, Bool.false_eq_true, if_false, hn]
          refine Ev.bind (unit_f n l2) ?_
          exact hr2
  · refine ⟨([], 1), ?_, ?_, small_nil⟩
    · unfold maxplus_Power.f
      refine Ev.bind (chk_any ha hc) ?_
      simp only [eq_false_of hc h1, Bool.false_eq_true, if_false]
      exact Ev.now _
    · unfold railplanref30_Power.f
      refine Ev.bind (rchk_any ha hc) ?_
      simp only [eq_false_of hc h1, Bool.false_eq_true, if_false]
      exact Ev.now _

theorem mulb {a b : Int} (h1 : -1000000 ≤ a) (h2 : a ≤ 1000000) (h3 : 0 ≤ b) (h4 : b ≤ 100) : -100000000 ≤ a * b ∧ a * b ≤ 100000000 := by
  have e1 := Int.mul_le_mul_of_nonneg_right h2 h3
  have e2 := Int.mul_le_mul_of_nonneg_right h1 h3
  omega
theorem best_bd {n : Nat} {f : Nat → Nat → Int} (hn : n ≤ 12) (hf : bd 40 n n f) {K I : Nat} (hK : K ≤ n) {num den : Int} (h : BEST n f (seenw n K I) num den) : -1000000 ≤ num ∧ num ≤ 1000000 ∧ 0 ≤ den ∧ den ≤ 13 := by
  rcases h with ⟨h1, h2, h3⟩ | ⟨h0, ⟨k, i, h1, h2, h3⟩, h4⟩
  · omega
  · unfold seenw at h1
    have := bd40 hf k (by omega) h1.1 h1.1 (by rw [h2]; exact h0)
    omega
theorem gcd_abs (num den : Int) : Int.gcd (max num (-num)) den = Int.gcd num den := by
  rcases Int.le_total 0 num with h | h
  · rw [Int.max_eq_left (by omega)]
  · rw [Int.max_eq_right (by omega), Int.neg_gcd]
theorem Ev.one {α : Type} {g : Nat → Option α} {r s : α} (h1 : Ev g r) (h2 : Ev g s) : r = s := by
  obtain ⟨a, ha⟩ := h1
  obtain ⟨b, hb⟩ := h2
  have e1 := ha (max a b) (by omega)
  have e2 := hb (max a b) (by omega)
  rw [e1] at e2
  exact Option.some.inj e2

theorem rgcd_loop : ∀ (m : Nat) (a b : Int), 0 ≤ a → 0 ≤ b → b ≤ m → Ev (fun k => railplanref1_Gcd.l0 k a b) ((Int.gcd a b : Int), 0) := by
  intro m
  induction m with
  | zero =>
    intro a b ha hb h
    have : b = 0 := by omega
    subst this
    refine Ev_succ ?_
    simp only [railplanref1_Gcd.l0, if_neg (show ¬ (0 : Int) > 0 by omega), Int.gcd_zero]
    rw [show (a.natAbs : Int) = a by omega]
    exact Ev.now _
  | succ m ih =>
    intro a b ha hb h
    refine Ev_succ ?_
    simp only [railplanref1_Gcd.l0]
    by_cases h0 : b > 0
    · simp only [if_pos h0, if_neg (show ¬ b = 0 by omega)]
      have ht : Int.tmod a b = a % b := Int.tmod_eq_emod_of_nonneg ha
      have h5 := Int.emod_nonneg a (show b ≠ 0 by omega)
      have h6 := Int.emod_lt_of_pos a (show 0 < b by omega)
      have hg : Int.gcd b (a % b) = Int.gcd a b := by
        have e : a % b = a + b * -(a / b) := by
          have := Int.mul_ediv_add_emod a b
          rw [Int.mul_neg]; omega
        rw [e, Int.gcd_add_mul_left_right, Int.gcd_comm]
      rw [ht, ← hg]
      exact ih b (a % b) hb h5 (by omega)
    · have : b = 0 := by omega
      subst this
      simp only [if_neg (show ¬ (0 : Int) > 0 by omega), Int.gcd_zero]
      rw [show (a.natAbs : Int) = a by omega]
      exact Ev.now _
theorem rgcd_f (a b : Int) (ha : 0 ≤ a) (hb : 0 ≤ b) : Ev (fun k => railplanref1_Gcd.f k a b) ((Int.gcd a b : Int), 0) := by
  unfold railplanref1_Gcd.f
  simp only [if_neg (show ¬ a < 0 by omega), decide_eq_false (show ¬ b < 0 by omega)]
  refine Ev_succ ?_
  simp only [railplanref1_Gcd.j0, Bool.false_eq_true, if_false]
  exact rgcd_loop b.toNat a b ha hb (by omega)

theorem rmean_f (n : Nat) (f : Nat → Nat → Int) (h1 : 1 ≤ n) (hn : n ≤ 12) (hf : bd 40 n n f) : ∃ x y ok, Ev (fun k => railplanref30_Mean.f k (mat n n f)) (x, y, ok) ∧ MEAN n f x y ok := by
  have l0 : ∀ d K : Nat, K + d = n → ∀ num den : Int, BEST n f (seenw n K 0) num den → ∃ x y ok, Ev (fun k => railplanref30_Mean.l0 k (mat n n f) num den (mat n n (pp n f K)) ((K + 1 : Nat) : Int)) (x, y, ok) ∧ MEAN n f x y ok := by
    intro d
    induction d with
    | zero =>
      intro K hK num den hB
      have hKn : K = n := by omega
      subst hKn
      by_cases hd : den = 0
      · refine ⟨0, 0, false, ?_, best_no hB hd⟩
        refine Ev_succ ?_
        simp only [railplanref30_Mean.l0, length_mat, if_neg (show ¬ ((K + 1 : Nat) : Int) ≤ (K : Int) by omega), if_pos hd]
        exact Ev.now _
      · obtain ⟨a1, a2, a3, a4, a5, a6⟩ := best_mean hf hn hB hd
        refine ⟨_, _, _, ?_, a6⟩
        refine Ev_succ ?_
        simp only [railplanref30_Mean.l0, length_mat, if_neg (show ¬ ((K + 1 : Nat) : Int) ≤ (K : Int) by omega), if_neg hd]
        rw [wr (x := -num) (by omega) (by omega), mx_eq]
        refine Ev.bind (rgcd_f _ _ (by omega) (by omega)) ?_
        simp only [gcd_abs]
        simp only [if_neg (show ¬ (Int.gcd num den : Int) = 0 by omega)]
        have b1 : 1 ≤ Int.tdiv den (Int.gcd num den) ∧ Int.tdiv den (Int.gcd num den) ≤ K ∧ -1000000 ≤ Int.tdiv num (Int.gcd num den) ∧ Int.tdiv num (Int.gcd num den) ≤ 1000000 := by
          rcases a6 with h | h
          · exact absurd h.1 (by simp)
          · exact ⟨h.2.1, h.2.2.1, h.2.2.2.1, h.2.2.2.2.1⟩
        rw [wr (x := Int.tdiv num (Int.gcd num den)) (by omega) (by omega), wr (x := Int.tdiv den (Int.gcd num den)) (by omega) (by omega)]
        exact Ev.now _
    | succ d ih =>
      intro K hK num den hB
      have l1 : ∀ e I : Nat, I + e = n → ∀ num den : Int, BEST n f (seenw n K I) num den → ∃ x y ok, Ev (fun k => railplanref30_Mean.l1 k (mat n n f) num den (mat n n (pp n f K)) ((K + 1 : Nat) : Int) (n : Int) (I : Int)) (x, y, ok) ∧ MEAN n f x y ok := by
        intro e
        induction e with
        | zero =>
          intro I hI num den hB
          obtain ⟨x, y, ok, hE, hM⟩ := ih (K + 1) (by omega) num den (best_same (fun k i => by rw [seenw_row, show I = n by omega]) hB)
          refine ⟨x, y, ok, ?_, hM⟩
          refine Ev_succ ?_
          simp only [railplanref30_Mean.l1, if_neg (show ¬ ((I : Int) < (n : Int)) by omega)]
          refine Ev.bind (raw_f (A := ((K + 1 : Nat) : Int) * 40) (B := 40) (by omega) (by omega) hn (bd_pp hf K) hf) ?_
          rw [wr (by omega) (by omega), show ((K + 1 : Nat) : Int) + 1 = ((K + 1 + 1 : Nat) : Int) by omega]
          exact hE
        | succ e ih2 =>
          intro I hI num den hB
          have hs := seenw_step (K := K) (show I < n by omega)
          obtain ⟨b1, b2, b3, b4⟩ := best_bd hn hf (by omega) hB
          have step : ∀ (x y : Int) (ok : Bool) (num' den' : Int), Ev (fun k => railplanref30_Mean.l1 k (mat n n f) num' den' (mat n n (pp n f K)) ((K + 1 : Nat) : Int) (n : Int) ((I + 1 : Nat) : Int)) (x, y, ok) →
              (if pp n f K I I = NV then (num' = num ∧ den' = den) else if den = 0 then (num' = pp n f K I I ∧ den' = ((K + 1 : Nat) : Int)) else if pp n f K I I * den > num * ((K + 1 : Nat) : Int) then (num' = pp n f K I I ∧ den' = ((K + 1 : Nat) : Int)) else (num' = num ∧ den' = den)) →
              Ev (fun k => railplanref30_Mean.l1 k (mat n n f) num den (mat n n (pp n f K)) ((K + 1 : Nat) : Int) (n : Int) (I : Int)) (x, y, ok) := by
            intro x y ok num' den' hE hc
            refine Ev_succ ?_
            simp only [railplanref30_Mean.l1, length_mat]
            simp (disch := omega) only [if_pos, rd1_mat, rd_tab, Int.toNat_natCast, length_tab]
            rw [wr (x := (I : Int) + 1) (by omega) (by omega), show (I : Int) + 1 = ((I + 1 : Nat) : Int) by omega]
            by_cases c1 : pp n f K I I = -1125899906842624
            · rw [if_pos c1] at hc
              simp only [if_pos c1]
              obtain ⟨rfl, rfl⟩ := hc; exact hE
            · rw [if_neg c1] at hc
              simp only [if_neg c1]
              by_cases c2 : den = 0
              · rw [if_pos c2] at hc
                simp only [if_pos c2]
                obtain ⟨rfl, rfl⟩ := hc; exact hE
              · rw [if_neg c2] at hc
                have hb := bd40 hf K (by omega) (show I < n by omega) (show I < n by omega) c1
                have m1 := mulb hb.1 hb.2 b3 (by omega)
                have m2 := mulb b1 b2 (show (0 : Int) ≤ ((K + 1 : Nat) : Int) by omega) (by omega)
                simp only [if_neg c2]
                rw [wr (x := pp n f K I I * den) (by omega) (by omega), wr (x := num * ((K + 1 : Nat) : Int)) (by omega) (by omega)]
                by_cases c3 : pp n f K I I * den > num * ((K + 1 : Nat) : Int)
                · rw [if_pos c3] at hc
                  simp only [if_pos c3]
                  obtain ⟨rfl, rfl⟩ := hc; exact hE
                · rw [if_neg c3] at hc
                  simp only [if_neg c3]
                  obtain ⟨rfl, rfl⟩ := hc; exact hE
          by_cases c1 : pp n f K I I = NV
          · obtain ⟨x, y, ok, hE, hM⟩ := ih2 (I + 1) (by omega) num den (best_none hs hB c1)
            exact ⟨x, y, ok, step x y ok num den hE (by rw [if_pos c1]; exact ⟨rfl, rfl⟩), hM⟩
          · by_cases c2 : den = 0
            · subst c2
              obtain ⟨x, y, ok, hE, hM⟩ := ih2 (I + 1) (by omega) _ _ (best_first hs hB c1)
              exact ⟨x, y, ok, step x y ok _ _ hE (by rw [if_neg c1, if_pos rfl]; exact ⟨rfl, rfl⟩), hM⟩
            · by_cases c3 : pp n f K I I * den > num * ((K + 1 : Nat) : Int)
              · obtain ⟨x, y, ok, hE, hM⟩ := ih2 (I + 1) (by omega) _ _ (best_more hs hB c2 c1 c3)
                exact ⟨x, y, ok, step x y ok _ _ hE (by rw [if_neg c1, if_neg c2, if_pos c3]; exact ⟨rfl, rfl⟩), hM⟩
              · obtain ⟨x, y, ok, hE, hM⟩ := ih2 (I + 1) (by omega) _ _ (best_less hs hB c2 c3)
                exact ⟨x, y, ok, step x y ok _ _ hE (by rw [if_neg c1, if_neg c2, if_neg c3]; exact ⟨rfl, rfl⟩), hM⟩
      obtain ⟨x, y, ok, hE, hM⟩ := l1 n 0 (by omega) num den hB
      refine ⟨x, y, ok, ?_, hM⟩
      refine Ev_succ ?_
      simp only [railplanref30_Mean.l0, length_mat, if_pos (show ((K + 1 : Nat) : Int) ≤ (n : Int) by omega)]
      exact hE
  obtain ⟨x, y, ok, hE, hM⟩ := l0 n 0 (by omega) 0 0 (best_start n f)
  refine ⟨x, y, ok, ?_, hM⟩
  unfold railplanref30_Mean.f
  refine Ev.bind (rchk_any (small_mat n n f hn hn) (b := true) ⟨fun _ => (cok_mat n f h1 hn).2 (bd_mono hf (by omega)), fun _ => rfl⟩) ?_
  simp only [if_true]
  exact hE

theorem pgcd_loop : ∀ (m : Nat) (a b : Int), 0 ≤ a → 0 ≤ b → b ≤ m → Ev (fun k => arith_Gcd.l0 k a b) ((Int.gcd a b : Int), 0) := by
  intro m
  induction m with
  | zero =>
    intro a b ha hb h
    have : b = 0 := by omega
    subst this
    refine Ev_succ ?_
    simp only [arith_Gcd.l0, if_neg (show ¬ (0 : Int) > 0 by omega), Int.gcd_zero]
    rw [show (a.natAbs : Int) = a by omega]
    exact Ev.now _
  | succ m ih =>
    intro a b ha hb h
    refine Ev_succ ?_
    simp only [arith_Gcd.l0]
    by_cases h0 : b > 0
    · simp only [if_pos h0, if_neg (show ¬ b = 0 by omega)]
      have ht : Int.tmod a b = a % b := Int.tmod_eq_emod_of_nonneg ha
      have h5 := Int.emod_nonneg a (show b ≠ 0 by omega)
      have h6 := Int.emod_lt_of_pos a (show 0 < b by omega)
      have hg : Int.gcd b (a % b) = Int.gcd a b := by
        have e : a % b = a + b * -(a / b) := by
          have := Int.mul_ediv_add_emod a b
          rw [Int.mul_neg]; omega
        rw [e, Int.gcd_add_mul_left_right, Int.gcd_comm]
      rw [ht, ← hg]
      exact ih b (a % b) hb h5 (by omega)
    · have : b = 0 := by omega
      subst this
      simp only [if_neg (show ¬ (0 : Int) > 0 by omega), Int.gcd_zero]
      rw [show (a.natAbs : Int) = a by omega]
      exact Ev.now _
theorem pgcd_f (a b : Int) (ha : 0 ≤ a) (hb : 0 ≤ b) : Ev (fun k => arith_Gcd.f k a b) ((Int.gcd a b : Int), 0) := by
  unfold arith_Gcd.f
  simp only [if_neg (show ¬ a < 0 by omega), decide_eq_false (show ¬ b < 0 by omega)]
  refine Ev_succ ?_
  simp only [arith_Gcd.j0, Bool.false_eq_true, if_false]
  exact pgcd_loop b.toNat a b ha hb (by omega)

theorem closed_f (n : Nat) (f : Nat → Nat → Int) (h1 : 1 ≤ n) (hn : n ≤ 12) (hf : bd 40 n n f) : Ev (fun k => maxplus_closed.f k (mat n n f)) (tab (n + 1) (fun a => if a = 0 then 0 else cmax n f (a - 1))) := by
  have l0 : ∀ d K : Nat, K + d = n → Ev (fun k => maxplus_closed.l0 k (mat n n f) (tab (n + 1) (fun a => if a = 0 then 0 else if a ≤ K then cmax n f (a - 1) else 0)) (mat n n (pp n f K)) ((K + 1 : Nat) : Int)) (tab (n + 1) (fun a => if a = 0 then 0 else cmax n f (a - 1))) := by
    intro d
    induction d with
    | zero =>
      intro K hK
      refine Ev_succ ?_
      simp only [maxplus_closed.l0, length_mat, if_neg (show ¬ ((K + 1 : Nat) : Int) ≤ (n : Int) by omega)]
      rw [tab_congr (g := fun a => if a = 0 then 0 else cmax n f (a - 1)) (fun a ha => by
        by_cases h : a = 0
        · rw [if_pos h, if_pos h]
        · rw [if_neg h, if_neg h, if_pos (by omega)])]
      exact Ev.now _
    | succ d ih =>
      intro K hK
      refine Ev_succ ?_
      simp only [maxplus_closed.l0, length_mat, length_tab, if_pos (show ((K + 1 : Nat) : Int) ≤ (n : Int) by omega), if_pos (show (0 : Int) ≤ ((K + 1 : Nat) : Int) by omega), if_pos (show ((K + 1 : Nat) : Int) < ((n + 1 : Nat) : Int) by omega)]
      rw [Int.toNat_natCast, set_tab]
      have l1 : ∀ e I : Nat, I + e = n → Ev (fun k => maxplus_closed.l1 k (mat n n f) (tab (n + 1) (fun a => if a = K + 1 then mxr (fun i => pp n f K i i) I else if a = 0 then 0 else if a ≤ K then cmax n f (a - 1) else 0)) (mat n n (pp n f K)) ((K + 1 : Nat) : Int) (n : Int) (I : Int)) (tab (n + 1) (fun a => if a = 0 then 0 else cmax n f (a - 1))) := by
        intro e
        induction e with
        | zero =>
          intro I hI
          refine Ev_succ ?_
          simp only [maxplus_closed.l1, if_neg (show ¬ (I : Int) < (n : Int) by omega)]
          refine Ev.bind (product_f (A := ((K + 1 : Nat) : Int) * 40) (B := 40) (by omega) (by omega) hn h1 hn hn (bd_pp hf K) hf) ?_
          rw [wr (by omega) (by omega), show ((K + 1 : Nat) : Int) + 1 = ((K + 1 + 1 : Nat) : Int) by omega]
          rw [tab_congr (g := fun a => if a = 0 then 0 else if a ≤ K + 1 then cmax n f (a - 1) else 0) (fun a ha => by
            by_cases h : a = K + 1
            · rw [if_pos h, if_neg (by omega), if_pos (by omega), show I = n by omega, show a - 1 = K by omega]; rfl
            · rw [if_neg h]
              by_cases h0 : a = 0
              · rw [if_pos h0, if_pos h0]
              · rw [if_neg h0, if_neg h0]
                by_cases h2 : a ≤ K
                · rw [if_pos h2, if_pos (by omega)]
                · rw [if_neg h2, if_neg (by omega)])]
          exact ih (K + 1) (by omega)
        | succ e ih2 =>
          intro I hI
          refine Ev_succ ?_
          simp only [maxplus_closed.l1, length_mat, length_tab]
          simp (disch := omega) only [if_pos, rd1_mat, rd_tab, Int.toNat_natCast, length_tab]
          rw [wr (by omega) (by omega), show (I : Int) + 1 = ((I + 1 : Nat) : Int) by omega, set_tab, mx_eq]
          rw [tab_congr (g := fun a => if a = K + 1 then mxr (fun i => pp n f K i i) (I + 1) else if a = 0 then 0 else if a ≤ K then cmax n f (a - 1) else 0) (fun a ha => by
            by_cases h : a = K + 1
            · rw [if_pos h, if_pos h]; simp only [if_true]; rfl
            · rw [if_neg h, if_neg h, if_neg h])]
          exact ih2 (I + 1) (by omega)
      have h := l1 n 0 (by omega)
      exact h
  unfold maxplus_closed.f
  rw [length_mat, wr (by omega) (by omega), show (n : Int) + 1 = ((n + 1 : Nat) : Int) by omega]
  have hw : (((n + 1 : Nat) : Int)).toNat ≤ 35184372088832 := by omega
  simp only [if_pos (show 0 ≤ ((n + 1 : Nat) : Int) by omega), if_pos hw]
  rw [Int.toNat_natCast, replicate_tab]
  have h := l0 n 0 (by omega)
  rw [tab_congr (g := fun _ => (0 : Int)) (fun a ha => by
    by_cases h0 : a = 0
    · rw [if_pos h0]
    · rw [if_neg h0, if_neg (by omega)])] at h
  exact h
theorem pmean_f (n : Nat) (f : Nat → Nat → Int) (h1 : 1 ≤ n) (hn : n ≤ 12) (hf : bd 40 n n f) : ∃ x y ok, Ev (fun k => maxplus_Mean.f k (mat n n f)) (x, y, ok) ∧ MEAN n f x y ok := by
  have bdc : ∀ K, K ≤ 100 → cmax n f K ≠ NV → -1000000 ≤ cmax n f K ∧ cmax n f K ≤ 1000000 := by
    intro K hK h
    rcases mxr_mem (fun i => pp n f K i i) n with e | ⟨I, hI, e⟩
    · exact absurd e h
    · have e' : cmax n f K = pp n f K I I := e
      rw [e'] at h ⊢
      exact bd40 hf K (by omega) hI hI h
  have l0 : ∀ d K : Nat, K + d = n → ∀ num den : Int, BEST n f (seenw n K 0) num den → ∃ x y ok, Ev (fun k => maxplus_Mean.l0 k num den (tab (n + 1) (fun a => if a = 0 then 0 else cmax n f (a - 1))) ((n + 1 : Nat) : Int) ((K + 1 : Nat) : Int)) (x, y, ok) ∧ MEAN n f x y ok := by
    intro d
    induction d with
    | zero =>
      intro K hK num den hB
      have hKn : K = n := by omega
      subst hKn
      by_cases hd : den = 0
      · refine ⟨0, 0, false, ?_, best_no hB hd⟩
        refine Ev_succ ?_
        simp only [maxplus_Mean.l0, if_neg (show ¬ ((K + 1 : Nat) : Int) < ((K + 1 : Nat) : Int) by omega), if_pos hd]
        exact Ev.now _
      · obtain ⟨a1, a2, a3, a4, a5, a6⟩ := best_mean hf hn hB hd
        refine ⟨_, _, _, ?_, a6⟩
        refine Ev_succ ?_
        simp only [maxplus_Mean.l0, if_neg (show ¬ ((K + 1 : Nat) : Int) < ((K + 1 : Nat) : Int) by omega), if_neg hd]
        rw [wr (x := -num) (by omega) (by omega), mx_eq]
        refine Ev.bind (pgcd_f _ _ (by omega) (by omega)) ?_
        simp only [gcd_abs, if_true]
        simp only [if_pos (show (Int.gcd num den : Int) > 0 by omega), if_neg (show ¬ (Int.gcd num den : Int) = 0 by omega)]
        have b1 : 1 ≤ Int.tdiv den (Int.gcd num den) ∧ Int.tdiv den (Int.gcd num den) ≤ K ∧ -1000000 ≤ Int.tdiv num (Int.gcd num den) ∧ Int.tdiv num (Int.gcd num den) ≤ 1000000 := by
          rcases a6 with h | h
          · exact absurd h.1 (by simp)
          · exact ⟨h.2.1, h.2.2.1, h.2.2.2.1, h.2.2.2.2.1⟩
        rw [wr (x := Int.tdiv num (Int.gcd num den)) (by omega) (by omega), wr (x := Int.tdiv den (Int.gcd num den)) (by omega) (by omega)]
        exact Ev.now _
    | succ d ih =>
      intro K hK num den hB
      obtain ⟨b1, b2, b3, b4⟩ := best_bd hn hf (by omega) hB
      have step : ∀ (x y : Int) (ok : Bool) (num' den' : Int), Ev (fun k => maxplus_Mean.l0 k num' den' (tab (n + 1) (fun a => if a = 0 then 0 else cmax n f (a - 1))) ((n + 1 : Nat) : Int) ((K + 1 + 1 : Nat) : Int)) (x, y, ok) →
          (if cmax n f K = NV then (num' = num ∧ den' = den) else if den = 0 then (num' = cmax n f K ∧ den' = ((K + 1 : Nat) : Int)) else if cmax n f K * den > num * ((K + 1 : Nat) : Int) then (num' = cmax n f K ∧ den' = ((K + 1 : Nat) : Int)) else (num' = num ∧ den' = den)) →
          Ev (fun k => maxplus_Mean.l0 k num den (tab (n + 1) (fun a => if a = 0 then 0 else cmax n f (a - 1))) ((n + 1 : Nat) : Int) ((K + 1 : Nat) : Int)) (x, y, ok) := by
        intro x y ok num' den' hE hc
        refine Ev_succ ?_
        simp only [maxplus_Mean.l0, length_tab]
        have hrd : rd (tab (n + 1) (fun a => if a = 0 then 0 else cmax n f (a - 1))) ((K + 1 : Nat) : Int) = cmax n f K := by
          rw [rd_tab _ _ _ (by omega) (by omega), Int.toNat_natCast, if_neg (by omega), show K + 1 - 1 = K by omega]
        rw [hrd]
        simp only [if_pos (show ((K + 1 : Nat) : Int) < ((n + 1 : Nat) : Int) by omega), if_pos (show (0 : Int) ≤ ((K + 1 : Nat) : Int) by omega), if_pos (show ((K + 1 : Nat) : Int) > 0 by omega)]
        rw [wr (x := ((K + 1 : Nat) : Int) + 1) (by omega) (by omega), show ((K + 1 : Nat) : Int) + 1 = ((K + 1 + 1 : Nat) : Int) by omega]
        by_cases c1 : cmax n f K = -1125899906842624
        · rw [if_pos c1] at hc
          simp only [if_pos c1]
          obtain ⟨rfl, rfl⟩ := hc; exact hE
        · rw [if_neg c1] at hc
          simp only [if_neg c1]
          by_cases c2 : den = 0
          · rw [if_pos c2] at hc
            simp only [if_pos c2]
            obtain ⟨rfl, rfl⟩ := hc; exact hE
          · rw [if_neg c2] at hc
            have hb := bdc K (by omega) c1
            have m1 := mulb hb.1 hb.2 b3 (by omega)
            have m2 := mulb b1 b2 (show (0 : Int) ≤ ((K + 1 : Nat) : Int) by omega) (by omega)
            simp only [if_neg c2]
            rw [wr (x := cmax n f K * den) (by omega) (by omega), wr (x := num * ((K + 1 : Nat) : Int)) (by omega) (by omega)]
            by_cases c3 : cmax n f K * den > num * ((K + 1 : Nat) : Int)
            · rw [if_pos c3] at hc
              simp only [if_pos c3]
              obtain ⟨rfl, rfl⟩ := hc; exact hE
            · rw [if_neg c3] at hc
              simp only [if_neg c3]
              obtain ⟨rfl, rfl⟩ := hc; exact hE
      obtain ⟨num', den', hc⟩ : ∃ num' den' : Int, (if cmax n f K = NV then (num' = num ∧ den' = den) else if den = 0 then (num' = cmax n f K ∧ den' = ((K + 1 : Nat) : Int)) else if cmax n f K * den > num * ((K + 1 : Nat) : Int) then (num' = cmax n f K ∧ den' = ((K + 1 : Nat) : Int)) else (num' = num ∧ den' = den)) := by
        by_cases c1 : cmax n f K = NV
        · exact ⟨num, den, by rw [if_pos c1]; exact ⟨rfl, rfl⟩⟩
        · by_cases c2 : den = 0
          · exact ⟨cmax n f K, ((K + 1 : Nat) : Int), by rw [if_neg c1, if_pos c2]; exact ⟨rfl, rfl⟩⟩
          · by_cases c3 : cmax n f K * den > num * ((K + 1 : Nat) : Int)
            · exact ⟨cmax n f K, ((K + 1 : Nat) : Int), by rw [if_neg c1, if_neg c2, if_pos c3]; exact ⟨rfl, rfl⟩⟩
            · exact ⟨num, den, by rw [if_neg c1, if_neg c2, if_neg c3]; exact ⟨rfl, rfl⟩⟩
      obtain ⟨x, y, ok, hE, hM⟩ := ih (K + 1) (by omega) num' den' (best_row hf (by omega) hB hc)
      exact ⟨x, y, ok, step x y ok num' den' hE hc, hM⟩
  obtain ⟨x, y, ok, hE, hM⟩ := l0 n 0 (by omega) 0 0 (best_start n f)
  refine ⟨x, y, ok, ?_, hM⟩
  unfold maxplus_Mean.f
  refine Ev.bind (check_f n h1 hn f (bd_mono hf (by omega))) ?_
  simp only [if_true]
  refine Ev.bind (closed_f n f h1 hn hf) ?_
  rw [length_tab]
  refine Ev_succ ?_
  simp only [maxplus_Mean.l0, length_tab]
  simp only [if_pos (show (0 : Int) < ((n + 1 : Nat) : Int) by omega), if_pos (show (0 : Int) ≤ 0 by omega), if_neg (show ¬ (0 : Int) > 0 by omega)]
  rw [wr (x := (0 : Int) + 1) (by omega) (by omega), show (0 : Int) + 1 = ((0 + 1 : Nat) : Int) by omega]
  exact hE
theorem rdb_tab (n : Nat) (s : Nat → Bool) (i : Nat) (h : i < n) : rdOf false (tab n s) (i : Int) = s i := by
  unfold rdOf; rw [Int.toNat_natCast]; exact getD_tab n s false i h

theorem StarLib_rdL (n m : Nat) (f : Nat → Nat → Int) (i : Nat) (h : i < n) : StarLib.rdL (mat n m f) (i : Int) = tab m (f i) := by
  unfold StarLib.rdL
  rw [Int.toNat_natCast]
  exact getD_tab n _ [] i h
theorem StarLib_sq (n : Nat) (h1 : 1 ≤ n) (hn : n ≤ 12) (f : Nat → Nat → Int) : StarLib.sqB n (mat n n f) = true := by
  unfold StarLib.sqB
  simp only [Bool.and_eq_true, decide_eq_true_eq, List.all_eq_true]
  refine ⟨⟨⟨h1, by omega⟩, length_mat n n f⟩, fun r hr => ?_⟩
  unfold mat tab at hr
  obtain ⟨a, _, rfl⟩ := List.mem_map.1 hr
  simp

theorem StarLib_in {n : Nat} (p b : Nat → Nat → Int) {i : Nat} (hi : i < n) : ∀ j, j ≤ n → StarLib.maxIn (mat n n p) i j (mat n n b) = mat n n (fun a c => if a = i ∧ c < j then mx (b a c) (p a c) else b a c)
  | 0, _ => mat_congr (fun a c _ _ => (if_neg (by omega)).symm)
  | j + 1, hj => by
    show StarLib.maxStep (mat n n p) i j (StarLib.maxIn (mat n n p) i j (mat n n b)) = _
    rw [StarLib_in p b hi j (by omega)]
    unfold StarLib.maxStep
    rw [StarLib_rdL _ _ _ _ hi, StarLib_rdL _ _ _ _ hi, rd_tab _ _ _ (by omega) (by omega), rd_tab _ _ _ (by omega) (by omega), set_mat]
    refine mat_congr (fun a c ha hc => ?_)
    by_cases h : a = i ∧ c = j
    · obtain ⟨rfl, rfl⟩ := h
      simp
    · rw [if_neg h]
      by_cases h2 : a = i ∧ c < j
      · rw [if_pos h2, if_pos (by omega)]
      · rw [if_neg h2, if_neg (by omega)]
theorem StarLib_out {n : Nat} (p b : Nat → Nat → Int) : ∀ i, i ≤ n → StarLib.maxOut (mat n n p) n i (mat n n b) = mat n n (fun a c => if a < i then mx (b a c) (p a c) else b a c)
  | 0, _ => mat_congr (fun a c _ _ => (if_neg (by omega)).symm)
  | i + 1, hi => by
    show StarLib.maxIn (mat n n p) i n (StarLib.maxOut (mat n n p) n i (mat n n b)) = _
    rw [StarLib_out p b i (by omega), StarLib_in _ _ (by omega) n (by omega)]
    refine mat_congr (fun a c ha hc => ?_)
    by_cases h : a = i
    · subst h
      rw [if_pos ⟨rfl, hc⟩, if_neg (by omega), if_pos (by omega)]
    · rw [if_neg (fun h2 => h h2.1)]
      by_cases h2 : a < i
      · rw [if_pos h2, if_pos (by omega)]
      · rw [if_neg h2, if_neg (by omega)]

theorem s_loop {n : Nat} {f : Nat → Nat → Int} (h1 : 1 ≤ n) (hn : n ≤ 12) (hf : bd 40 n n f) (d : Nat) : ∀ i : Nat, i + d = n → Ev (fun k => starLoop k (mat n n f) n d i (mat n n (fun a c => mxr (fun q => pw n f q a c) i))) (mat n n (st n f), 0) := by
  induction d with
  | zero =>
    intro i hi
    rw [show i = n by omega]
    exact Ev.now _
  | succ d ih =>
    intro i hi
    show Ev (fun k => (maxplus_Power.f k (mat n n f) (i : Int)).bind fun p => if p.2 = 0 then (if StarLib.sqB n p.1 = true then starLoop k (mat n n f) n d (i + 1) (StarLib.maxOut p.1 n n (mat n n (fun a c => mxr (fun q => pw n f q a c) i))) else none) else some (([] : List (List Int)), p.2)) _
    refine Ev.bind (power_f h1 hn (by omega) (by omega) hf i (by omega)) ?_
    simp only [if_true, StarLib_sq n h1 hn, StarLib_out _ _ n (Nat.le_refl n)]
    have e : mat n n (fun a c => if a < n then mx (mxr (fun q => pw n f q a c) i) (pw n f i a c) else mxr (fun q => pw n f q a c) i) = mat n n (fun a c => mxr (fun q => pw n f q a c) (i + 1)) := mat_congr (fun a c ha hc => by rw [if_pos ha, mx_eq]; rfl)
    rw [e]
    exact ih (i + 1) (by omega)
theorem star_f {n : Nat} {f : Nat → Nat → Int} (h1 : 1 ≤ n) (hn : n ≤ 12) (hf : bd 40 n n f) {x y : Int} {ok : Bool} (hE : Ev (fun k => maxplus_Mean.f k (mat n n f)) (x, y, ok)) :
    Ev (fun k => maxplus_Star.f k (mat n n f)) (if ok = true ∧ x > 0 then (([] : List (List Int)), 14) else (mat n n (st n f), 0)) := by
  unfold maxplus_Star.f
  refine Ev.bind (check_f n h1 hn f (bd_mono hf (by omega))) ?_
  simp only [if_true]
  refine Ev.bind hE ?_
  show Ev (fun k => if ok = true ∧ x > 0 then some (([] : List (List Int)), (14 : Int)) else (maxplus_matrix.f k ((mat n n f).length : Int) ((mat n n f).length : Int)).bind fun m => starTail k (mat n n f) m) _
  by_cases hp : ok = true ∧ x > 0
  · simp only [if_pos hp]
    exact Ev.now _
  · simp only [if_neg hp, length_mat]
    refine Ev.bind (matrix_f n n hn hn) ?_
    unfold starTail
    simp only [length_mat, StarLib_sq n h1 hn, if_true]
    exact s_loop h1 hn hf n 0 (by omega)

theorem r_power {n : Nat} {f : Nat → Nat → Int} (h1 : 1 ≤ n) (hn : n ≤ 12) (hf : bd 40 n n f) (i : Nat) (hi : i ≤ 40) : Ev (fun k => railplanref30_Power.f k (mat n n f) (i : Int)) (mat n n (pw n f i), 0) := by
  obtain ⟨r, e1, e2, _⟩ := power_any (mat n n f) (small_mat n n f hn hn) (i : Int) (by omega) (by omega)
  have := Ev.one e1 (power_f h1 hn (by omega) (by omega) hf i (by omega))
  rw [this] at e2
  exact e2
theorem rs_loop {n : Nat} {f : Nat → Nat → Int} (h1 : 1 ≤ n) (hn : n ≤ 12) (hf : bd 40 n n f) (d : Nat) : ∀ i : Nat, i + d = n → Ev (fun k => rstarLoop k (mat n n f) n d i (mat n n (fun a c => mxr (fun q => pw n f q a c) i))) (mat n n (st n f), 0) := by
  induction d with
  | zero =>
    intro i hi
    rw [show i = n by omega]
    exact Ev.now _
  | succ d ih =>
    intro i hi
    show Ev (fun k => (railplanref30_Power.f k (mat n n f) (i : Int)).bind fun p => if p.2 = 0 then (if StarLib.sqB n p.1 = true then rstarLoop k (mat n n f) n d (i + 1) (StarLib.maxOut p.1 n n (mat n n (fun a c => mxr (fun q => pw n f q a c) i))) else none) else some (([] : List (List Int)), p.2)) _
    refine Ev.bind (r_power h1 hn hf i (by omega)) ?_
    simp only [if_true, StarLib_sq n h1 hn, StarLib_out _ _ n (Nat.le_refl n)]
    have e : mat n n (fun a c => if a < n then mx (mxr (fun q => pw n f q a c) i) (pw n f i a c) else mxr (fun q => pw n f q a c) i) = mat n n (fun a c => mxr (fun q => pw n f q a c) (i + 1)) := mat_congr (fun a c ha hc => by rw [if_pos ha, mx_eq]; rfl)
    rw [e]
    exact ih (i + 1) (by omega)
theorem rstar_f {n : Nat} {f : Nat → Nat → Int} (h1 : 1 ≤ n) (hn : n ≤ 12) (hf : bd 40 n n f) {x y : Int} {ok : Bool} (hE : Ev (fun k => railplanref30_Mean.f k (mat n n f)) (x, y, ok)) :
    Ev (fun k => railplanref30_Star.f k (mat n n f)) (if ok = true ∧ x > 0 then (([] : List (List Int)), 14) else (mat n n (st n f), 0)) := by
  unfold railplanref30_Star.f
  refine Ev.bind (rchk_any (small_mat n n f hn hn) (b := true) ⟨fun _ => (cok_mat n f h1 hn).2 (bd_mono hf (by omega)), fun _ => rfl⟩) ?_
  simp only [if_true]
  refine Ev.bind hE ?_
  show Ev (fun k => if ok = true ∧ x > 0 then some (([] : List (List Int)), (14 : Int)) else (railplanref30_unit.f k ((mat n n f).length : Int)).bind fun m => rstarTail k (mat n n f) m) _
  by_cases hp : ok = true ∧ x > 0
  · simp only [if_pos hp]
    exact Ev.now _
  · simp only [if_neg hp, length_mat]
    refine Ev.bind (unit_f n hn) ?_
    unfold rstarTail
    simp only [length_mat, StarLib_sq n h1 hn, if_true]
    have e : mat n n un = mat n n (fun a c => mxr (fun q => pw n f q a c) 1) := mat_congr (fun a c _ _ => by
      have hNV : NV = -1125899906842624 := rfl
      show un a c = max NV (un a c)
      unfold un
      split <;> omega)
    rw [e]
    exact rs_loop h1 hn hf (n - 1) 1 (by omega)

def cl (c : Nat → Bool) : Nat → List Int
  | 0 => []
  | i + 1 => if c i = true then cl c i ++ [(i : Int)] else cl c i
theorem cl_len (c : Nat → Bool) : ∀ i, (cl c i).length ≤ i
  | 0 => Nat.le_refl _
  | i + 1 => by
    unfold cl
    have := cl_len c i
    split
    · simp; omega
    · omega
def CRIT (n : Nat) (f : Nat → Nat → Int) (x y : Int) (K i : Nat) : Prop := ∃ k, k < K ∧ pp n f k i i ≠ NV ∧ pp n f k i i * y = x * ((k + 1 : Nat) : Int)
theorem crit_up {n : Nat} {f : Nat → Nat → Int} {x y : Int} {K I : Nat} : CRIT n f x y (K + 1) I ↔ CRIT n f x y K I ∨ (pp n f K I I ≠ NV ∧ pp n f K I I * y = x * ((K + 1 : Nat) : Int)) := by
  constructor
  · rintro ⟨k, c1, c2⟩
    rcases Nat.lt_or_ge k K with h | h
    · exact .inl ⟨k, h, c2⟩
    · rw [show k = K by omega] at c2; exact .inr c2
  · rintro (⟨k, c1, c2⟩ | c2)
    · exact ⟨k, by omega, c2⟩
    · exact ⟨K, by omega, c2⟩
theorem rcritx_f (n : Nat) (f : Nat → Nat → Int) (h1 : 1 ≤ n) (hn : n ≤ 12) (hf : bd 40 n n f) (x y : Int) (hE : Ev (fun k => railplanref30_Mean.f k (mat n n f)) (x, y, true)) (hb : 1 ≤ y ∧ y ≤ n ∧ -1000000 ≤ x ∧ x ≤ 1000000) (c : Nat → Bool) (hc : ∀ i, i < n → (c i = true ↔ CRIT n f x y n i)) :
    Ev (fun k => railplanref30_Critical.f k (mat n n f)) (cl c n) := by
  have l0 : ∀ d I : Nat, I + d = n → Ev (fun k => railplanref30_Critical.l0 k (mat n n f) x y (cl c I) (n : Int) (I : Int)) (cl c n) := by
    intro d
    induction d with
    | zero =>
      intro I hI
      refine Ev_succ ?_
      simp only [railplanref30_Critical.l0, if_neg (show ¬ (I : Int) < (n : Int) by omega)]
      rw [show I = n by omega]
      exact Ev.now _
    | succ d ih =>
      intro I hI
      have hll := cl_len c I
      have l1 : ∀ e K : Nat, K + e = n → ∀ on : Bool, (on = true ↔ CRIT n f x y K I) → Ev (fun k => railplanref30_Critical.l1 k (mat n n f) x y (cl c I) (I : Int) (mat n n (pp n f K)) on ((K + 1 : Nat) : Int) (n : Int) (I : Int)) (cl c n) := by
        intro e
        induction e with
        | zero =>
          intro K hK on hon
          have hKn : K = n := by omega
          subst hKn
          have hcI := hc I (by omega)
          cases on
          · have hcf : c I = false := by
              cases h : c I with
              | false => rfl
              | true => exact absurd (hon.2 (hcI.1 h)) (by simp)
            have b1 := ih (I + 1) (by omega)
            rw [show cl c (I + 1) = cl c I from if_neg (by rw [hcf]; decide)] at b1
            refine Ev_succ ?_
            simp only [railplanref30_Critical.l1, length_mat, if_neg (show ¬ ((K + 1 : Nat) : Int) ≤ (K : Int) by omega), Bool.false_eq_true, if_false]
            rw [wr (by omega) (by omega), show (I : Int) + 1 = ((I + 1 : Nat) : Int) by omega]
            exact b1
          · have hct : c I = true := hcI.2 (hon.1 rfl)
            have b1 := ih (I + 1) (by omega)
            rw [show cl c (I + 1) = cl c I ++ [(I : Int)] from if_pos hct] at b1
            refine Ev_succ ?_
            simp only [railplanref30_Critical.l1, length_mat, if_neg (show ¬ ((K + 1 : Nat) : Int) ≤ (K : Int) by omega), if_true, if_pos (show (cl c I).length < 17592186044416 by omega)]
            rw [wr (by omega) (by omega), show (I : Int) + 1 = ((I + 1 : Nat) : Int) by omega]
            exact b1
        | succ e ih2 =>
          intro K hK on hon
          have hraw := raw_f (A := ((K + 1 : Nat) : Int) * 40) (B := 40) (by omega) (by omega) hn (bd_pp hf K) hf
          have nxt : ((K + 1 : Nat) : Int) + 1 = ((K + 1 + 1 : Nat) : Int) := by omega
          cases on
          · by_cases c1 : pp n f K I I = NV
            · have b1 := ih2 (K + 1) (by omega) false (by rw [hon, crit_up]; exact ⟨.inl, fun h => h.elim id (fun g => absurd c1 g.1)⟩)
              refine Ev_succ ?_
              simp only [railplanref30_Critical.l1, length_mat]
              simp (disch := omega) only [if_pos, rd1_mat, rd_tab, Int.toNat_natCast, length_tab]
              simp only [Bool.false_eq_true, if_false, if_pos (show pp n f K I I = -1125899906842624 from c1)]
              refine Ev.bind hraw ?_
              rw [wr (by omega) (by omega), nxt]
              exact b1
            · have hbb := bd40 hf K (by omega) (show I < n by omega) (show I < n by omega) c1
              have m1 := mulb hbb.1 hbb.2 (show 0 ≤ y by omega) (by omega)
              have m2 := mulb hb.2.2.1 hb.2.2.2 (show (0 : Int) ≤ ((K + 1 : Nat) : Int) by omega) (by omega)
              have b1 := ih2 (K + 1) (by omega) (pp n f K I I * y == x * ((K + 1 : Nat) : Int)) (by
                rw [beq_iff_eq, crit_up]
                exact ⟨fun h => .inr ⟨c1, h⟩, fun h => h.elim (fun g => absurd (hon.2 g) (by simp)) (fun g => g.2)⟩)
              refine Ev_succ ?_
              simp only [railplanref30_Critical.l1, length_mat]
              simp (disch := omega) only [if_pos, rd1_mat, rd_tab, Int.toNat_natCast, length_tab]
              simp only [Bool.false_eq_true, if_false, if_neg (show ¬ pp n f K I I = -1125899906842624 from c1)]
              refine Ev.bind hraw ?_
              rw [wr (x := ((K + 1 : Nat) : Int) + 1) (by omega) (by omega), nxt, wr (x := pp n f K I I * y) (by omega) (by omega), wr (x := x * ((K + 1 : Nat) : Int)) (by omega) (by omega)]
              exact b1
          · have b1 := ih2 (K + 1) (by omega) true (by rw [crit_up]; exact ⟨fun _ => .inl (hon.1 rfl), fun _ => rfl⟩)
            refine Ev_succ ?_
            simp only [railplanref30_Critical.l1, length_mat, if_pos (show ((K + 1 : Nat) : Int) ≤ (n : Int) by omega), if_true]
            refine Ev.bind hraw ?_
            rw [wr (by omega) (by omega), nxt]
            exact b1
      have b1 := l1 n 0 (by omega) false ⟨fun h => by simp at h, fun ⟨k, h, _⟩ => by omega⟩
      refine Ev_succ ?_
      simp only [railplanref30_Critical.l0, if_pos (show (I : Int) < (n : Int) by omega)]
      exact b1
  have b1 := l0 n 0 (by omega)
  unfold railplanref30_Critical.f
  refine Ev.bind hE ?_
  simp only [if_true, length_mat]
  exact b1
/-- The weights less the mean. -/
def TT (x y : Int) (m : Nat) (v : Int) : Int := if v = NV then NV else v * y - x * (m : Int)
def gg (f : Nat → Nat → Int) (x y : Int) (i j : Nat) : Int := TT x y 1 (f i j)
theorem TT_max {x y : Int} {m : Nat} (hy : 1 ≤ y) (hy2 : y ≤ 12) (hx : -1000000 ≤ x ∧ x ≤ 1000000) (hm : m ≤ 100) {u v : Int} (hu : en 1000000 u) (hv : en 1000000 v) : max (TT x y m u) (TT x y m v) = TT x y m (max u v) := by
  have hxm := mulb hx.1 hx.2 (show (0 : Int) ≤ (m : Int) by omega) (by omega)
  have hNV : NV = -1125899906842624 := rfl
  have real : ∀ w, en 1000000 w → w ≠ NV → TT x y m w = w * y - x * (m : Int) ∧ -100000000 ≤ w * y := fun w hw hn => by
    have hb := en_ne hw hn
    have := mulb hb.1 hb.2 (show 0 ≤ y by omega) (by omega)
    exact ⟨if_neg hn, this.1⟩
  by_cases a : u = NV
  · by_cases b : v = NV
    · rw [a, b]; simp
    · have hb := en_ne hv b
      obtain ⟨e, r⟩ := real v hv b
      rw [a, Int.max_eq_right (show NV ≤ v by omega), e, show TT x y m NV = NV from if_pos rfl, Int.max_eq_right (by omega)]
  · by_cases b : v = NV
    · have hb := en_ne hu a
      obtain ⟨e, r⟩ := real u hu a
      rw [b, Int.max_eq_left (show NV ≤ u by omega), e, show TT x y m NV = NV from if_pos rfl, Int.max_eq_left (by omega)]
    · obtain ⟨e1, r1⟩ := real u hu a
      obtain ⟨e2, r2⟩ := real v hv b
      rcases Int.le_total u v with h | h
      · have hm2 := Int.mul_le_mul_of_nonneg_right h (show 0 ≤ y by omega)
        rw [Int.max_eq_right h, e1, e2, Int.max_eq_right (by omega)]
      · have hm2 := Int.mul_le_mul_of_nonneg_right h (show 0 ≤ y by omega)
        rw [Int.max_eq_left h, e1, e2, Int.max_eq_left (by omega)]
theorem TT_mxr {x y : Int} {m : Nat} (hy : 1 ≤ y) (hy2 : y ≤ 12) (hx : -1000000 ≤ x ∧ x ≤ 1000000) (hm : m ≤ 100) (h : Nat → Int) : ∀ n, (∀ l, l < n → en 1000000 (h l)) → mxr (fun l => TT x y m (h l)) n = TT x y m (mxr h n)
  | 0, _ => (if_pos rfl).symm
  | n + 1, hh => by
    show max (mxr (fun l => TT x y m (h l)) n) (TT x y m (h n)) = TT x y m (max (mxr h n) (h n))
    rw [TT_mxr hy hy2 hx hm h n (fun l hl => hh l (by omega)), TT_max hy hy2 hx hm (en_mxr h n (fun l hl => hh l (by omega))) (hh n (by omega))]
theorem TT_sm {x y : Int} {m : Nat} (hy : 1 ≤ y) (hy2 : y ≤ 12) (hx : -1000000 ≤ x ∧ x ≤ 1000000) (hm : m ≤ 90) {u v : Int} (hu : en 100000 u) (hv : en 100000 v) : sm (TT x y m u) (TT x y 1 v) = TT x y (m + 1) (sm u v) := by
  have hxm := mulb hx.1 hx.2 (show (0 : Int) ≤ (m : Int) by omega) (by omega)
  have hNV : NV = -1125899906842624 := rfl
  by_cases a : u = NV
  · rw [a, sm_nv, show TT x y m NV = NV from if_pos rfl, sm_nv, show TT x y (m + 1) NV = NV from if_pos rfl]
  · by_cases b : v = NV
    · rw [b, sm_nv', show TT x y 1 NV = NV from if_pos rfl, sm_nv', show TT x y (m + 1) NV = NV from if_pos rfl]
    · have h1 := en_ne hu a
      have h2 := en_ne hv b
      have p1 := mulb (show -1000000 ≤ u by omega) (by omega) (show 0 ≤ y by omega) (by omega)
      have p2 := mulb (show -1000000 ≤ v by omega) (by omega) (show 0 ≤ y by omega) (by omega)
      have e1 : TT x y m u = u * y - x * (m : Int) := if_neg a
      have e2 : TT x y 1 v = v * y - x := by
        rw [show TT x y 1 v = v * y - x * ((1 : Nat) : Int) from if_neg b]; simp
      have e3 : sm u v = u + v := by unfold sm; rw [if_neg a, if_neg b]
      have e4 : TT x y (m + 1) (u + v) = (u + v) * y - x * ((m + 1 : Nat) : Int) := if_neg (by omega)
      have e5 : (u + v) * y = u * y + v * y := Int.add_mul _ _ _
      have e6 : x * ((m + 1 : Nat) : Int) = x * (m : Int) + x := by rw [Int.natCast_add, Int.mul_add]; simp
      rw [e1, e2, e3, e4, e5, e6]
      unfold sm
      rw [if_neg (by omega), if_neg (by omega)]
      omega
theorem gg_pp {n : Nat} {f : Nat → Nat → Int} (hn : n ≤ 12) (hf : bd 40 n n f) {x y : Int} (hy : 1 ≤ y) (hy2 : y ≤ 12) (hx : -1000000 ≤ x ∧ x ≤ 1000000) : ∀ k i j, k ≤ 20 → i < n → j < n → pp n (gg f x y) k i j = TT x y (k + 1) (pp n f k i j)
  | 0, i, j, _, hi, hj => rfl
  | k + 1, i, j, hk, hi, hj => by
    show mxr (fun l => sm (pp n (gg f x y) k i l) (gg f x y l j)) n = TT x y (k + 1 + 1) (mxr (fun l => sm (pp n f k i l) (f l j)) n)
    have hb : ∀ l, l < n → en 100000 (pp n f k i l) := fun l hl => en_mono (bd_pp hf k i l hi hl) (by omega)
    have hb2 : ∀ l, l < n → en 100000 (f l j) := fun l hl => en_mono (hf l j hl hj) (by omega)
    rw [← TT_mxr hy hy2 hx (by omega) _ n (fun l hl => en_mono (en_sm (hb l hl) (hb2 l hl)) (by omega))]
    refine mxr_congr n (fun l hl => ?_)
    show sm (pp n (gg f x y) k i l) (TT x y 1 (f l j)) = _
    rw [gg_pp hn hf hy hy2 hx k i l (by omega) hi hl, TT_sm hy hy2 hx (by omega) (hb l hl) (hb2 l hl)]
theorem bd_gg {n : Nat} {f : Nat → Nat → Int} (hf : bd 40 n n f) {x y : Int} (hy : 1 ≤ y) (hy2 : y ≤ 12) (hx : -1000000 ≤ x ∧ x ≤ 1000000) : bd 200000000 n n (gg f x y) := fun i j hi hj => by
  unfold gg TT
  by_cases a : f i j = NV
  · rw [if_pos a]; exact .inl rfl
  · rw [if_neg a]
    have hb := en_ne (hf i j hi hj) a
    have := mulb (show -1000000 ≤ f i j by omega) (by omega) (show 0 ≤ y by omega) (by omega)
    refine .inr ?_
    simp
    omega
theorem c_in {n : Nat} (f b : Nat → Nat → Int) (x y : Int) {i : Nat} (hi : i < n) : ∀ j, j ≤ n → redIn (mat n n f) x y i j (mat n n b) = mat n n (fun a c => if a = i ∧ c < j ∧ f a c ≠ NV then wrap64 (wrap64 (f a c * y) - x) else b a c)
  | 0, _ => mat_congr (fun a c _ _ => (if_neg (by omega)).symm)
  | j + 1, hj => by
    show redStep (mat n n f) x y i j (redIn (mat n n f) x y i j (mat n n b)) = _
    rw [c_in f b x y hi j (by omega)]
    unfold redStep
    rw [StarLib_rdL _ _ _ _ hi, StarLib_rdL _ _ _ _ hi, rd_tab _ _ _ (by omega) (by omega), Int.toNat_natCast]
    by_cases hv : f i j = NV
    · rw [if_pos hv]
      refine mat_congr (fun a c ha hc => ?_)
      by_cases h : a = i ∧ c = j
      · obtain ⟨rfl, rfl⟩ := h
        rw [if_neg (fun h => h.2.2 hv), if_neg (fun h => h.2.2 hv)]
      · by_cases h2 : a = i ∧ c < j ∧ f a c ≠ NV
        · rw [if_pos h2, if_pos ⟨h2.1, by omega, h2.2.2⟩]
        · rw [if_neg h2, if_neg (fun h3 => h2 ⟨h3.1, by omega, h3.2.2⟩)]
    · rw [if_neg hv, set_mat]
      refine mat_congr (fun a c ha hc => ?_)
      by_cases h : a = i ∧ c = j
      · obtain ⟨rfl, rfl⟩ := h
        rw [if_pos ⟨rfl, rfl⟩, if_pos ⟨rfl, by omega, hv⟩]
      · rw [if_neg h]
        by_cases h2 : a = i ∧ c < j ∧ f a c ≠ NV
        · rw [if_pos h2, if_pos ⟨h2.1, by omega, h2.2.2⟩]
        · rw [if_neg h2, if_neg (fun h3 => h2 ⟨h3.1, by omega, h3.2.2⟩)]
theorem c_out {n : Nat} (f b : Nat → Nat → Int) (x y : Int) : ∀ i, i ≤ n → redOut (mat n n f) x y i (mat n n b) = mat n n (fun a c => if a < i ∧ f a c ≠ NV then wrap64 (wrap64 (f a c * y) - x) else b a c)
  | 0, _ => mat_congr (fun a c _ _ => (if_neg (by omega)).symm)
  | i + 1, hi => by
    show redIn (mat n n f) x y i (StarLib.rdL (mat n n f) (i : Int)).length (redOut (mat n n f) x y i (mat n n b)) = _
    rw [StarLib_rdL _ _ _ _ (by omega), length_tab, c_out f b x y i (by omega), c_in _ _ _ _ (by omega) n (by omega)]
    refine mat_congr (fun a c ha hc => ?_)
    by_cases h : a = i
    · subst h
      by_cases hv : f a c = NV
      · rw [if_neg (fun h => h.2.2 hv), if_neg (by omega), if_neg (fun h => h.2 hv)]
      · rw [if_pos ⟨rfl, hc, hv⟩, if_pos ⟨by omega, hv⟩]
    · rw [if_neg (fun h2 => h h2.1)]
      by_cases h2 : a < i ∧ f a c ≠ NV
      · rw [if_pos h2, if_pos ⟨by omega, h2.2⟩]
      · rw [if_neg h2, if_neg (fun h3 => h2 ⟨by omega, h3.2⟩)]
theorem c_red {n : Nat} {f : Nat → Nat → Int} (hf : bd 40 n n f) {x y : Int} (hy : 1 ≤ y) (hy2 : y ≤ 12) (hx : -1000000 ≤ x ∧ x ≤ 1000000) : redOut (mat n n f) x y n (mat n n (fun _ _ => NV)) = mat n n (gg f x y) := by
  rw [c_out _ _ _ _ n (Nat.le_refl _)]
  refine mat_congr (fun a c ha hc => ?_)
  unfold gg TT
  by_cases h : f a c = NV
  · rw [if_neg (fun h2 => h2.2 h), if_pos h]
  · have hb := en_ne (hf a c ha hc) h
    have := mulb (show -1000000 ≤ f a c by omega) (by omega) (show 0 ≤ y by omega) (by omega)
    rw [if_pos ⟨ha, h⟩, if_neg h, wr (x := f a c * y) (by omega) (by omega), wr (by omega) (by omega)]
    simp
theorem c_on {n : Nat} (g : Nat → Nat → Int) (s : Nat → Bool) : ∀ i, i ≤ n → onI (mat n n g) i (tab n s) = tab n (fun a => if a < i then (s a || (g a a == 0)) else s a)
  | 0, _ => tab_congr (fun a _ => (if_neg (by omega)).symm)
  | i + 1, hi => by
    show (onI (mat n n g) i (tab n s)).set i (rdOf false (onI (mat n n g) i (tab n s)) (i : Int) || (rd (StarLib.rdL (mat n n g) (i : Int)) (i : Int) == 0)) = _
    rw [c_on g s i (by omega), rdb_tab _ _ _ (by omega), StarLib_rdL _ _ _ _ (by omega), rd_tab _ _ _ (by omega) (by omega), Int.toNat_natCast, if_neg (Nat.lt_irrefl i), set_tab]
    refine tab_congr (fun a ha => ?_)
    by_cases h : a = i
    · subst h
      rw [if_pos rfl, if_pos (by omega)]
    · rw [if_neg h]
      by_cases h2 : a < i
      · rw [if_pos h2, if_pos (by omega)]
      · rw [if_neg h2, if_neg (by omega)]
def ons (n : Nat) (g : Nat → Nat → Int) : Nat → Nat → Bool
  | 0, _ => false
  | q + 1, a => ons n g q a || (pp n g q a a == 0)
theorem c_loop {n : Nat} {g : Nat → Nat → Int} (h1 : 1 ≤ n) (hn : n ≤ 12) (hg : bd 200000000 n n g) (d : Nat) : ∀ q : Nat, q + d = n → Ev (fun k => critLoop k (mat n n g) n d (mat n n (pp n g q)) (tab n (ons n g q))) (tab n (ons n g n)) := by
  induction d with
  | zero =>
    intro q hq
    rw [show q = n by omega]
    exact Ev.now _
  | succ d ih =>
    intro q hq
    show Ev (fun k => if StarLib.sqB n (mat n n (pp n g q)) = true then (maxplus_product.f k (mat n n (pp n g q)) (mat n n g)).bind fun w2 => critLoop k (mat n n g) n d w2 (onI (mat n n (pp n g q)) n (tab n (ons n g q))) else none) _
    simp only [StarLib_sq n h1 hn, if_true]
    have hq2 : ((q + 1 : Nat) : Int) * 200000000 ≤ 1000000000000000 := by omega
    refine Ev.bind (product_f (A := ((q + 1 : Nat) : Int) * 200000000) (B := 200000000) hq2 (by omega) hn h1 hn hn (bd_pp hg q) hg) ?_
    have e : onI (mat n n (pp n g q)) n (tab n (ons n g q)) = tab n (ons n g (q + 1)) := by
      rw [c_on _ _ n (Nat.le_refl _)]
      exact tab_congr (fun a ha => by rw [if_pos ha]; rfl)
    rw [e]
    exact ih (q + 1) (by omega)
theorem ons_crit {n : Nat} {f : Nat → Nat → Int} (hn : n ≤ 12) (hf : bd 40 n n f) {x y : Int} (hy : 1 ≤ y) (hy2 : y ≤ 12) (hx : -1000000 ≤ x ∧ x ≤ 1000000) {a : Nat} (ha : a < n) : ∀ q, q ≤ n → (ons n (gg f x y) q a = true ↔ CRIT n f x y q a)
  | 0, _ => ⟨fun h => absurd h (by simp [ons]), fun ⟨k, h, _⟩ => by omega⟩
  | q + 1, hq => by
    show (ons n (gg f x y) q a || (pp n (gg f x y) q a a == 0)) = true ↔ _
    rw [Bool.or_eq_true, ons_crit hn hf hy hy2 hx ha q (by omega), crit_up, gg_pp hn hf hy hy2 hx q a a (by omega) ha ha, beq_iff_eq]
    refine or_congr Iff.rfl ?_
    unfold TT
    by_cases h : pp n f q a a = NV
    · rw [if_pos h]
      exact ⟨fun e => absurd e (by decide), fun e => absurd h e.1⟩
    · rw [if_neg h]
      exact ⟨fun e => ⟨h, by omega⟩, fun e => by omega⟩
theorem c_nodes (n : Nat) (c : Nat → Bool) : ∀ i, i ≤ n → nodesI (tab n c) i = cl c i
  | 0, _ => rfl
  | i + 1, hi => by
    unfold nodesI cl
    rw [c_nodes n c i (by omega), rdb_tab _ _ _ (by omega)]
theorem crit_f {n : Nat} {f : Nat → Nat → Int} (h1 : 1 ≤ n) (hn : n ≤ 12) (hf : bd 40 n n f) {x y : Int} (hb : 1 ≤ y ∧ y ≤ n ∧ -1000000 ≤ x ∧ x ≤ 1000000) (hE : Ev (fun k => maxplus_Mean.f k (mat n n f)) (x, y, true)) :
    Ev (fun k => maxplus_Critical.f k (mat n n f)) (cl (ons n (gg f x y) n) n) := by
  unfold maxplus_Critical.f
  refine Ev.bind hE ?_
  simp only [if_true, length_mat]
  refine Ev.bind (matrix_f n n hn hn) ?_
  unfold critTail
  simp only [length_mat, StarLib_sq n h1 hn, if_true]
  rw [c_red hf hb.1 (by omega) hb.2.2, replicate_tab]
  refine Ev.bind (c_loop h1 hn (bd_gg hf hb.1 (by omega) hb.2.2) n 0 (by omega)) ?_
  rw [c_nodes n _ n (Nat.le_refl _)]
  exact Ev.now _

theorem mean_uniq {n : Nat} {f : Nat → Nat → Int} {x y u v : Int} {ok is : Bool} (h : MEAN n f x y ok) (h' : MEAN n f u v is) : x = u ∧ y = v ∧ ok = is := by
  rcases h with ⟨rfl, rfl, rfl, hno⟩ | ⟨rfl, hy, _, _, _, hg, ⟨k, i, hk, hi, hnv, he⟩, hall⟩
  · rcases h' with ⟨rfl, rfl, rfl, _⟩ | ⟨rfl, _, _, _, _, _, ⟨k, i, hk, hi, hnv, _⟩, _⟩
    · exact ⟨rfl, rfl, rfl⟩
    · exact absurd (hno k i hk hi) hnv
  · rcases h' with ⟨rfl, rfl, rfl, hno⟩ | ⟨rfl, hv, _, _, _, hg', ⟨k', i', hk', hi', hnv', he'⟩, hall'⟩
    · exact absurd (hno k i hk hi) hnv
    · have a := hall' k i hk hi hnv
      have b := hall k' i' hk' hi' hnv'
      have l1 : x * v * ((k + 1 : Nat) : Int) ≤ u * y * ((k + 1 : Nat) : Int) := by
        rw [Int.mul_right_comm x v _, ← he, Int.mul_right_comm (pp n f k i i) y v, Int.mul_right_comm u y _]
        exact Int.mul_le_mul_of_nonneg_right a (by omega)
      have l2 : u * y * ((k' + 1 : Nat) : Int) ≤ x * v * ((k' + 1 : Nat) : Int) := by
        rw [Int.mul_right_comm u y _, ← he', Int.mul_right_comm (pp n f k' i' i') v y, Int.mul_right_comm x v _]
        exact Int.mul_le_mul_of_nonneg_right b (by omega)
      have e : x * v = u * y := Int.le_antisymm (Int.le_of_mul_le_mul_right l1 (by omega)) (Int.le_of_mul_le_mul_right l2 (by omega))
      have d1 : y.natAbs ∣ v.natAbs := Nat.Coprime.dvd_of_dvd_mul_left (k := y.natAbs) (m := x.natAbs) (by show Nat.gcd y.natAbs x.natAbs = 1; rw [Nat.gcd_comm]; exact hg) ⟨u.natAbs, by rw [← Int.natAbs_mul, e, Int.natAbs_mul, Nat.mul_comm]⟩
      have d2 : v.natAbs ∣ y.natAbs := Nat.Coprime.dvd_of_dvd_mul_left (k := v.natAbs) (m := u.natAbs) (by show Nat.gcd v.natAbs u.natAbs = 1; rw [Nat.gcd_comm]; exact hg') ⟨x.natAbs, by rw [← Int.natAbs_mul, ← e, Int.natAbs_mul, Nat.mul_comm]⟩
      have d3 := Nat.dvd_antisymm d1 d2
      have hyv : y = v := by omega
      subst hyv
      exact ⟨Int.eq_of_mul_eq_mul_right (by omega) e, rfl, rfl⟩
theorem MaxplusMade : railplanlaw33_MaxplusMade.Pure := by
  intro a0 l1 a2 _ _ h1 _ _
  obtain ⟨p, hp, p0, p1⟩ := pick_f a0 4 (by omega) (by omega)
  obtain ⟨t, ht, t0, t1⟩ := pick_f a2 12 (by omega) (by omega)
  obtain ⟨n, hn⟩ : ∃ n : Nat, 1 + p = (n : Int) := ⟨(1 + p).toNat, by omega⟩
  obtain ⟨f, hfm, bf⟩ := matrix_made l1 (by omega) n (by omega)
  have hf : bd 40 n n f := bd_mono bf (by omega)
  have n1 : 1 ≤ n := by omega
  have n2 : n ≤ 12 := by omega
  obtain ⟨x, y, ok, hE, hM⟩ := pmean_f n f n1 n2 hf
  obtain ⟨u, v, is, hE2, hM2⟩ := rmean_f n f n1 n2 hf
  obtain ⟨rfl, rfl, rfl⟩ := mean_uniq hM hM2
  obtain ⟨r, hr1, hr2, hr3⟩ := power_any (mat n n f) (small_mat n n f n2 n2) t (by omega) (by omega)
  have hS := star_f n1 n2 hf hE
  have hS2 := rstar_f n1 n2 hf hE2
  have hsm : SMALL (if ok = true ∧ x > 0 then (([] : List (List Int)), (14 : Int)) else (mat n n (st n f), 0)).1 := by
    split
    · exact small_nil
    · exact small_mat n n _ n2 n2
  generalize (if ok = true ∧ x > 0 then (([] : List (List Int)), (14 : Int)) else (mat n n (st n f), 0)) = S at hS hS2 hsm
  obtain ⟨L, hc1, hc2, hcl⟩ : ∃ L : List Int, Ev (fun k => maxplus_Critical.f k (mat n n f)) L ∧ Ev (fun k => railplanref30_Critical.f k (mat n n f)) L ∧ L.length ≤ 12 := by
    cases hok : ok with
    | false =>
      rw [hok] at hE hE2
      refine ⟨[], ?_, ?_, by simp⟩
      · unfold maxplus_Critical.f
        refine Ev.bind hE ?_
        simp only [Bool.false_eq_true, if_false]
        exact Ev.now _
      · unfold railplanref30_Critical.f
        refine Ev.bind hE2 ?_
        simp only [Bool.false_eq_true, if_false]
        exact Ev.now _
    | true =>
      rw [hok] at hE hE2 hM
      have hb : 1 ≤ y ∧ y ≤ n ∧ -1000000 ≤ x ∧ x ≤ 1000000 := by
        rcases hM with h | h
        · exact absurd h.1 (by simp)
        · exact ⟨h.2.1, h.2.2.1, h.2.2.2.1, h.2.2.2.2.1⟩
      exact ⟨_, crit_f n1 n2 hf hb hE, rcritx_f n f n1 n2 hf x y hE2 hb _ (fun i hi => ons_crit n2 hf hb.1 (by omega) hb.2.2 hi n (Nat.le_refl _)), by have := cl_len (ons n (gg f x y) n) n; omega⟩
  refine Ev.rounds ?_
  unfold railplanlaw33_MaxplusMade.f
  rw [hp]
  simp only [obind]
  rw [wr (x := 1 + p) (by omega) (by omega), hn]
  refine Ev.bind hfm ?_
  refine Ev.bind hE ?_
  refine Ev.bind hE2 ?_
  refine Ev.bind hS ?_
  refine Ev.bind hS2 ?_
  simp only [ht, obind]
  refine Ev.bind hr1 ?_
  refine Ev.bind hr2 ?_
  refine Ev.bind awake_f ?_
  simp only [if_true, beq_self_eq_true]
  refine Ev.bind hc1 ?_
  refine Ev.bind hc2 ?_
  refine Ev.bind (same_f L (by omega)) ?_
  simp only [if_true]
  refine Ev.bind (same_small hsm) ?_
  simp only [if_true]
  refine Ev.bind (same_small hr3) ?_
  simp only [if_true, beq_self_eq_true]
  exact Ev.now _
end Go.Proofs.Ytnmhdeibjglhcaa.Pure
