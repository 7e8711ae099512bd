/- All functions return what the reference returns, for arbitrary lists of lists. -/
import Derived.Test.YtnmhdeibjglhcaaXMaxplusRawx13
import Derived.Test.YtnmhdeibjglhcaaMpMath
import Derived.OpenShut
set_option linter.unusedVariables false
set_option linter.unusedSimpArgs false
set_option linter.unusedSectionVars false
namespace Go.Proofs.Ytnmhdeibjglhcaa.Pure
open Go.RowKit Go.Proofs.Ytnmhdeibjglhcaa.XMaxplusRaw Go.Proofs.YtnmhdeibjglhcaaW.PrintWords Go.Proofs.YtnmhdeibjglhcaaW.PrintLast Go.Proofs.YtnmhdeibjglhcaaW.PrintMore Go.Proofs.Ytnmhdeibjglhcaa.MpMath

/-- Not by sight: the kernel is not to look into what is bound. -/
theorem obind {α β : Type} (a : α) (f : α → Option β) : (some a).bind f = f a := by cases h : f a <;> simp [h]
theorem wr {x : Int} (h1 : -9223372036854775808 ≤ x) (h2 : x ≤ 9223372036854775807) : wrap64 x = x := by unfold wrap64; omega
theorem Ev_succ {α : Type} {g : Nat → Option α} {r : α} (h : Ev (fun k => g (k + 1)) r) : Ev g r := Ev.step (fun _ => rfl) h
theorem mn_eq (a b : Int) : mn a b = min a b := by unfold mn; omega
theorem mx_eq (a b : Int) : mx a b = max a b := by unfold mx; omega
theorem rd_tab (n : Nat) (f : Nat → Int) (i : Int) (h0 : 0 ≤ i) (h : i < n) : rd (tab n f) i = f i.toNat := by
 unfold rd; exact getD_tab n f 0 i.toNat (by omega)
theorem uwrap (n : Int) : IntKind.u64.wrap n = n % 18446744073709551616 := by
 unfold IntKind.wrap
 simp only [IntKind.signed, IntKind.bits, Bool.false_and, Bool.false_eq_true, if_false]
 rfl

theorem pick_f (a n : Int) (h1 : 1 ≤ n) (h2 : n ≤ 9223372036854775807) : ∃ r, railplankeep_Pick.f a n = some r ∧ 0 ≤ r ∧ r < n := by
 unfold railplankeep_Pick.f
 have e : IntKind.u64.wrap n = n := by rw [uwrap]; omega
 have h0 : 0 ≤ IntKind.u64.wrap a := by rw [uwrap]; omega
 rw [e, if_neg (by omega)]
 have h3 := Int.tmod_eq_emod_of_nonneg (b := n) h0
 have h4 := Int.emod_nonneg (IntKind.u64.wrap a) (show n ≠ 0 by omega)
 have h5 := Int.emod_lt_of_pos (IntKind.u64.wrap a) (show 0 < n by omega)
 exact ⟨_, rfl, by rw [h3, wr (by omega) (by omega)]; exact h4, by rw [h3, wr (by omega) (by omega)]; exact h5⟩

theorem rd1_tab (n : Nat) (F : Nat → List Int) (i : Int) (h0 : 0 ≤ i) (h : i < n) : rd_L1 (tab n F) i = F i.toNat := by
 unfold rd_L1; exact getD_tab n F [] i.toNat (by omega)
theorem rd1_mat (n m : Nat) (f : Nat → Nat → Int) (i : Int) (h0 : 0 ≤ i) (h : i < n) : rd_L1 (mat n m f) i = tab m (f i.toNat) := rd1_tab n _ i h0 h

theorem entry_f (x : Int) (h : en 68719476736 x) : maxplus_entry.f x = some true := by
 unfold en NV at h
 unfold maxplus_entry.f
 by_cases h1 : x = -1125899906842624
 ·rw [if_pos h1]
 ·rw [if_neg h1, if_pos (by omega), decide_eq_true (by omega)]
theorem vector_loop (n : Nat) (h1 : 1 ≤ n) (hn : n ≤ 12) (f : Nat → Int) (hf : ∀ j, j < n → en 68719476736 (f j)) (d : Nat) : ∀ j : Nat, j + d = n → Ev (fun k => maxplus_Vector.l0 k (n : Int) (tab n f) (tab n f) (n : Int) (j : Int)) true := by
 induction d with
 | zero =>
  intro j hj
  refine Ev_succ ?_
  simp only [maxplus_Vector.l0, length_tab]
  simp (disch := omega) only [if_neg, if_pos]
  rw [decide_eq_true (by omega)]
  exact Ev.now _
 | succ d ih =>
  intro j hj
  refine Ev_succ ?_
  simp only [maxplus_Vector.l0, length_tab]
  simp (disch := omega) only [if_pos, rd_tab, Int.toNat_natCast, wr]
  rw [entry_f _ (hf j (by omega))]
  simp only [obind, if_true]
  rw [show (j : Int) + 1 = ((j + 1 : Nat) : Int) by omega]
  exact ih (j + 1) (by omega)
theorem vector_f (n : Nat) (h1 : 1 ≤ n) (hn : n ≤ 12) (f : Nat → Int) (hf : ∀ j, j < n → en 68719476736 (f j)) : Ev (fun k => maxplus_Vector.f k (n : Int) (tab n f)) true := by
 unfold maxplus_Vector.f
 rw [length_tab]
 exact vector_loop n h1 hn f hf n 0 (by omega)
theorem check_loop (n : Nat) (h1 : 1 ≤ n) (hn : n ≤ 12) (f : Nat → Nat → Int) (hf : bd 68719476736 n n f) (d : Nat) : ∀ i : Nat, i + d = n → Ev (fun k => maxplus_Check.l0 k (mat n n f) (mat n n f) (n : Int) (i : Int)) true := by
 induction d with
 | zero =>
  intro i hi
  refine Ev_succ ?_
  simp only [maxplus_Check.l0, length_mat]
  simp (disch := omega) only [if_neg, if_pos]
  rw [decide_eq_true (by omega)]
  exact Ev.now _
 | succ d ih =>
  intro i hi
  refine Ev_succ ?_
  simp only [maxplus_Check.l0, length_mat]
  simp (disch := omega) only [if_pos, rd1_mat, Int.toNat_natCast, wr]
  refine Ev.bind (vector_f n h1 hn (f i) (fun j hj => hf i j (by omega) hj)) ?_
  simp only [if_true]
  rw [show (i : Int) + 1 = ((i + 1 : Nat) : Int) by omega]
  exact ih (i + 1) (by omega)
theorem check_f (n : Nat) (h1 : 1 ≤ n) (hn : n ≤ 12) (f : Nat → Nat → Int) (hf : bd 68719476736 n n f) : Ev (fun k => maxplus_Check.f k (mat n n f)) true := by
 unfold maxplus_Check.f
 rw [length_mat]
 exact check_loop n h1 hn f hf n 0 (by omega)
theorem fits_loop (n m : Nat) (hn : n ≤ 12) (hm : m ≤ 12) (f : Nat → Nat → Int) (hf : bd 68719476736 n m f) (d : Nat) : ∀ i : Nat, i + d = n → Ev (fun k => maxplus_fits.l0 k (mat n m f) (n : Int) (i : Int)) true := by
 induction d with
 | zero =>
  intro i hi
  refine Ev_succ ?_
  simp only [maxplus_fits.l0]
  simp (disch := omega) only [if_neg]
  exact Ev.now _
 | succ d ih =>
  intro i hi
  refine Ev_succ ?_
  simp only [maxplus_fits.l0, length_mat]
  simp (disch := omega) only [if_pos, rd1_mat, Int.toNat_natCast, length_tab]
  have inner : ∀ e j : Nat, j + e = m → Ev (fun k => maxplus_fits.l1 k (mat n m f) (n : Int) (i : Int) (tab m (f i)) (m : Int) (j : Int)) true := by
   intro e
   induction e with
   | zero =>
    intro j hj
    refine Ev_succ ?_
    simp only [maxplus_fits.l1]
    simp (disch := omega) only [if_neg, wr]
    rw [show (i : Int) + 1 = ((i + 1 : Nat) : Int) by omega]
    exact ih (i + 1) (by omega)
   | succ e ih2 =>
    intro j hj
    refine Ev_succ ?_
    simp only [maxplus_fits.l1, length_tab]
    simp (disch := omega) only [if_pos, rd_tab, Int.toNat_natCast, wr]
    rw [entry_f _ (hf i j (by omega) (by omega))]
    simp only [obind, if_true]
    rw [show (j : Int) + 1 = ((j + 1 : Nat) : Int) by omega]
    exact ih2 (j + 1) (by omega)
  exact inner m 0 (by omega)
theorem fits_f (n m : Nat) (hn : n ≤ 12) (hm : m ≤ 12) (f : Nat → Nat → Int) (hf : bd 68719476736 n m f) : Ev (fun k => maxplus_fits.f k (mat n m f)) true := by
 unfold maxplus_fits.f
 rw [length_mat]
 exact fits_loop n m hn hm f hf n 0 (by omega)
theorem sum_f {A B x y : Int} (hx : en A x) (hy : en B y) (hA : A ≤ 1000000000000000) (hB : B ≤ 1000000000000000) : maxplus_sum.f x y = some (sm x y) := by
 unfold en NV at hx hy
 unfold maxplus_sum.f sm NV
 by_cases h1 : x = -1125899906842624
 ·rw [if_pos h1, if_pos h1]
 ·rw [if_neg h1, if_neg h1]
  by_cases h2 : y = -1125899906842624
  ·rw [if_pos h2, if_pos h2]
  ·rw [if_neg h2, if_neg h2, wr (by omega) (by omega)]
theorem matrix_loop (n m : Nat) (hn : n ≤ 12) (hm : m ≤ 12) (d : Nat) : ∀ i : Nat, i + d = n →
  Ev (fun k => maxplus_matrix.l0 k (m : Int) (tab n (fun a => if a < i then tab m (fun _ => NV) else [])) (n : Int) (i : Int)) (mat n m (fun _ _ => NV)) := by
 induction d with
 | zero =>
  intro i hi
  refine Ev_succ ?_
  simp only [maxplus_matrix.l0]
  simp (disch := omega) only [if_neg]
  have e : mat n m (fun _ _ => NV) = tab n (fun a => if a < i then tab m (fun _ => NV) else []) := tab_congr (fun a ha => by rw [if_pos (by omega)])
  rw [e]
  exact Ev.now _
 | succ d ih =>
  intro i hi
  refine Ev_succ ?_
  simp only [maxplus_matrix.l0, length_tab]
  have hw : ((m : Int)).toNat ≤ 35184372088832 := by omega
  simp only [if_pos (show (i : Int) < (n : Int) by omega), if_pos (show 0 ≤ (m : Int) by omega), if_pos hw, if_pos (show 0 ≤ (i : Int) by omega), obind]
  simp only [Int.toNat_natCast]
  rw [replicate_tab, set_tab]
  have inner : ∀ e j : Nat, j + e = m → Ev (fun k => maxplus_matrix.l1 k (m : Int) (tab n (fun a => if a = i then tab m (fun b => if b < j then NV else 0) else if a < i then tab m (fun _ => NV) else [])) (i : Int) (n : Int) (i : Int) (m : Int) (j : Int)) (mat n m (fun _ _ => NV)) := by
   intro e
   induction e with
   | zero =>
    intro j hj
    refine Ev_succ ?_
    simp only [maxplus_matrix.l1]
    simp (disch := omega) only [if_neg, wr]
    rw [show (i : Int) + 1 = ((i + 1 : Nat) : Int) by omega]
    have e : tab n (fun a => if a = i then tab m (fun b => if b < j then NV else 0) else if a < i then tab m (fun _ => NV) else []) = tab n (fun a => if a < i + 1 then tab m (fun _ => NV) else []) := tab_congr (fun a ha => by
     by_cases h1 : a = i
     ·rw [if_pos h1, if_pos (by omega)]
      exact tab_congr (fun b hb => if_pos (by omega))
     ·rw [if_neg h1]
      by_cases h2 : a < i
      ·rw [if_pos h2, if_pos (by omega)]
      ·rw [if_neg h2, if_neg (by omega)])
    rw [e]
    exact ih (i + 1) (by omega)
   | succ e ih2 =>
    intro j hj
    refine Ev_succ ?_
    simp only [maxplus_matrix.l1, length_tab]
    simp (disch := omega) only [if_pos, rd1_tab, Int.toNat_natCast, wr, if_true, length_tab]
    rw [set_tab, set_tab, show (j : Int) + 1 = ((j + 1 : Nat) : Int) by omega]
    have e : tab n (fun a => if a = i then tab m (fun b => if b = j then NV else if b < j then NV else 0) else if a = i then tab m (fun b => if b < j then NV else 0) else if a < i then tab m (fun _ => NV) else []) = tab n (fun a => if a = i then tab m (fun b => if b < j + 1 then NV else 0) else if a < i then tab m (fun _ => NV) else []) := tab_congr (fun a ha => by
     by_cases h1 : a = i
     ·rw [if_pos h1, if_pos h1]
      refine tab_congr (fun b hb => ?_)
      by_cases h2 : b = j
      ·rw [if_pos h2, if_pos (by omega)]
      ·rw [if_neg h2]
       by_cases h3 : b < j
       ·rw [if_pos h3, if_pos (by omega)]
       ·rw [if_neg h3, if_neg (by omega)]
     ·rw [if_neg h1, if_neg h1, if_neg h1])
    have e' := ih2 (j + 1) (by omega)
    rw [← e] at e'
    exact e'
  have h0 := inner m 0 (by omega)
  have hlen : ((rd_L1 (tab n (fun a => if a = i then tab m (fun _ => 0) else if a < i then tab m (fun _ => NV) else [])) (i : Int)).length : Int) = (m : Int) := by
   rw [rd1_tab _ _ _ (by omega) (by omega), Int.toNat_natCast, if_pos rfl, length_tab]
  have e0 : tab n (fun a => if a = i then tab m (fun b => if b < 0 then NV else 0) else if a < i then tab m (fun _ => NV) else []) = tab n (fun a => if a = i then tab m (fun _ => 0) else if a < i then tab m (fun _ => NV) else []) := tab_congr (fun a ha => by
   by_cases h1 : a = i
   ·rw [if_pos h1, if_pos h1]
    exact tab_congr (fun b hb => if_neg (by omega))
   ·rw [if_neg h1, if_neg h1])
  rw [e0, show ((0 : Nat) : Int) = 0 from rfl] at h0
  simp only [if_pos (show (i : Int) < (n : Int) by omega), hlen]
  exact h0
theorem matrix_f (n m : Nat) (hn : n ≤ 12) (hm : m ≤ 12) : Ev (fun k => maxplus_matrix.f k (n : Int) (m : Int)) (mat n m (fun _ _ => NV)) := by
 unfold maxplus_matrix.f
 have hw : ((n : Int)).toNat ≤ 11728124029610 := by omega
 simp only [if_pos (show 0 ≤ (n : Int) by omega), if_pos hw, obind]
 rw [Int.toNat_natCast, replicate_tab, length_tab]
 have h := matrix_loop n m hn hm n 0 (by omega)
 rw [tab_congr (f := fun a => if a < 0 then tab m (fun _ => NV) else []) (g := fun _ => []) (fun a ha => if_neg (by omega)), show ((0 : Nat) : Int) = 0 from rfl] at h
 exact h
section
variable {A B : Int} {n p m : Nat} {f g : Nat → Nat → Int} (hA : A ≤ 1000000000000000) (hB : B ≤ 1000000000000000) (hn : n ≤ 12) (hp0 : 1 ≤ p) (hp : p ≤ 12) (hm : m ≤ 12) (hf : bd A n p f) (hg : bd B p m g)
/-- The product as far as row i, term k, column j. -/
def part (p : Nat) (f g : Nat → Nat → Int) (i k j a b : Nat) : Int := if a < i then mp p f g a b else if a = i then (if b < j then mxr (fun k => sm (f a k) (g k b)) (k + 1) else mxr (fun k => sm (f a k) (g k b)) k) else NV
include hA hB hn hp hm hf hg
theorem product_l2 (i k : Nat) (hi : i < n) (hk : k < p) (r : List (List Int))
  (hr : Ev (fun q => maxplus_product.l1 q (mat p m g) (mat n m (part p f g i (k + 1) 0)) (i : Int) (mat n p f) (n : Int) (i : Int) (tab p (f i)) (p : Int) ((k + 1 : Nat) : Int)) r) (d : Nat) : ∀ j : Nat, j + d = m →
  Ev (fun q => maxplus_product.l2 q (mat p m g) (mat n m (part p f g i k j)) (i : Int) (f i k) (mat n p f) (n : Int) (i : Int) (tab p (f i)) (p : Int) (k : Int) (tab m (g k)) (m : Int) (j : Int)) r := by
 induction d with
 | zero =>
  intro j hj
  refine Ev_succ ?_
  simp only [maxplus_product.l2]
  simp (disch := omega) only [if_neg, wr]
  rw [show (k : Int) + 1 = ((k + 1 : Nat) : Int) by omega]
  have e : mat n m (part p f g i k j) = mat n m (part p f g i (k + 1) 0) := mat_congr (fun a b _ hb => by
   unfold part
   by_cases h1 : a < i
   ·rw [if_pos h1, if_pos h1]
   ·rw [if_neg h1, if_neg h1]
    by_cases h2 : a = i
    ·rw [if_pos h2, if_pos h2, if_pos (by omega), if_neg (by omega)]
    ·rw [if_neg h2, if_neg h2])
  rw [e]
  exact hr
 | succ d ih =>
  intro j hj
  refine Ev_succ ?_
  simp only [maxplus_product.l2, length_mat, length_tab]
  simp (disch := omega) only [if_pos, rd1_mat, rd_tab, Int.toNat_natCast, wr, length_tab]
  rw [sum_f (hf i k hi hk) (hg k j hk (by omega)) hA hB]
  simp only [obind]
  rw [set_mat, mx_eq, show (j : Int) + 1 = ((j + 1 : Nat) : Int) by omega]
  have e : mat n m (fun a b => if a = i ∧ b = j then max (part p f g i k j i j) (sm (f i k) (g k j)) else part p f g i k j a b) = mat n m (part p f g i k (j + 1)) := mat_congr (fun a b _ hb => by
   by_cases h1 : a = i
   ·subst h1
    by_cases h2 : b = j
    ·subst h2
     rw [if_pos ⟨rfl, rfl⟩]
     unfold part
     simp only [Nat.lt_irrefl, if_false, if_true]
     rw [if_pos (by omega)]
     rfl
    ·rw [if_neg (fun h => h2 h.2)]
     unfold part
     simp only [Nat.lt_irrefl, if_false, if_true]
     by_cases h3 : b < j
     ·rw [if_pos h3, if_pos (by omega)]
     ·rw [if_neg h3, if_neg (by omega)]
   ·rw [if_neg (fun h => h1 h.1)]
    unfold part
    by_cases h3 : a < i
    ·rw [if_pos h3, if_pos h3]
    ·rw [if_neg h3, if_neg h3, if_neg h1, if_neg h1])
  rw [e]
  exact ih (j + 1) (by omega)
theorem product_l1 (i : Nat) (hi : i < n) (r : List (List Int))
  (hr : Ev (fun q => maxplus_product.l0 q (mat p m g) (mat n m (part p f g (i + 1) 0 0)) (mat n p f) (n : Int) ((i + 1 : Nat) : Int)) r) (d : Nat) : ∀ k : Nat, k + d = p →
  Ev (fun q => maxplus_product.l1 q (mat p m g) (mat n m (part p f g i k 0)) (i : Int) (mat n p f) (n : Int) (i : Int) (tab p (f i)) (p : Int) (k : Int)) r := by
 induction d with
 | zero =>
  intro k hk
  refine Ev_succ ?_
  simp only [maxplus_product.l1]
  simp (disch := omega) only [if_neg, wr]
  rw [show (i : Int) + 1 = ((i + 1 : Nat) : Int) by omega]
  have e : mat n m (part p f g i k 0) = mat n m (part p f g (i + 1) 0 0) := mat_congr (fun a b _ hb => by
   unfold part
   by_cases h1 : a < i
   ·rw [if_pos h1, if_pos (by omega)]
   ·rw [if_neg h1]
    by_cases h2 : a = i
    ·rw [if_pos h2, if_neg (by omega), if_pos (by omega), show k = p by omega]; rfl
    ·rw [if_neg h2, if_neg (by omega)]
     by_cases h3 : a = i + 1
     ·rw [if_pos h3, if_neg (by omega)]; rfl
     ·rw [if_neg h3])
  rw [e]
  exact hr
 | succ d ih =>
  intro k hk
  refine Ev_succ ?_
  simp only [maxplus_product.l1, length_mat, length_tab]
  simp (disch := omega) only [if_pos, rd1_mat, rd_tab, Int.toNat_natCast, wr, length_tab]
  exact product_l2 hA hB hn hp hm hf hg i k hi (by omega) r (ih (k + 1) (by omega)) m 0 (by omega)
theorem product_l0 (d : Nat) : ∀ i : Nat, i + d = n →
  Ev (fun q => maxplus_product.l0 q (mat p m g) (mat n m (part p f g i 0 0)) (mat n p f) (n : Int) (i : Int)) (mat n m (mp p f g)) := by
 induction d with
 | zero =>
  intro i hi
  refine Ev_succ ?_
  simp only [maxplus_product.l0]
  simp (disch := omega) only [if_neg]
  have e : mat n m (part p f g i 0 0) = mat n m (mp p f g) := mat_congr (fun a b ha hb => by unfold part; rw [if_pos (by omega)])
  rw [e]
  exact Ev.now _
 | succ d ih =>
  intro i hi
  refine Ev_succ ?_
  simp only [maxplus_product.l0, length_mat]
  simp (disch := omega) only [if_pos, rd1_mat, Int.toNat_natCast, length_tab]
  exact product_l1 hA hB hn hp hm hf hg i (by omega) _ (ih (i + 1) (by omega)) p 0 (by omega)
include hp0
theorem product_f : Ev (fun q => maxplus_product.f q (mat n p f) (mat p m g)) (mat n m (mp p f g)) := by
 unfold maxplus_product.f
 simp only [length_mat]
 simp (disch := omega) only [if_pos, rd1_mat, length_tab]
 refine Ev.bind (matrix_f n m hn hm) ?_
 have e : mat n m (fun _ _ => NV) = mat n m (part p f g 0 0 0) := mat_congr (fun a b _ _ => by
  unfold part
  rw [if_neg (by omega)]
  by_cases h : a = 0
  ·rw [if_pos h, if_neg (by omega)]; rfl
  ·rw [if_neg h])
 rw [e]
 exact product_l0 hA hB hn hp hm hf hg n 0 (by omega)
end
theorem mul_f {A B : Int} {n : Nat} {f g : Nat → Nat → Int} (h1 : 1 ≤ n) (hn : n ≤ 12) (hf : bd A n n f) (hg : bd B n n g) (hA : A ≤ 1000000000) (hB : B ≤ 1000000000) : Ev (fun k => maxplus_Mul.f k (mat n n f) (mat n n g)) (mat n n (mp n f g), 0) := by
 unfold maxplus_Mul.f
 refine Ev.bind (check_f n h1 hn f (bd_mono hf (by omega))) ?_
 simp only [if_true]
 refine Ev.bind (check_f n h1 hn g (bd_mono hg (by omega))) ?_
 simp only [if_true, length_mat, bne_self_eq_false]
 refine Ev_succ ?_
 simp only [maxplus_Mul.j0, Bool.false_eq_true, if_false]
 refine Ev.bind (product_f (by omega) (by omega) hn h1 hn hn hf hg) ?_
 refine Ev.bind (fits_f n n hn hn _ (bd_mono (bd_mp hf hg) (by omega))) ?_
 simp only [if_true]
 exact Ev.now _

theorem same_loop (l : List Int) (hl : l.length ≤ 1000000) (d : Nat) : ∀ i : Nat, i + d = l.length → Ev (fun k => railplankeep_Same_int.l0 k l l (l.length : Int) (i : Int)) true := by
 induction d with
 | zero =>
  intro i hi
  refine Ev_succ ?_
  simp only [railplankeep_Same_int.l0]
  simp (disch := omega) only [if_neg]
  exact Ev.now _
 | succ d ih =>
  intro i hi
  refine Ev_succ ?_
  simp only [railplankeep_Same_int.l0]
  simp (disch := omega) only [if_pos, wr, if_true]
  rw [show (i : Int) + 1 = ((i + 1 : Nat) : Int) by omega]
  exact ih (i + 1) (by omega)
theorem same_f (l : List Int) (hl : l.length ≤ 1000000) : Ev (fun k => railplankeep_Same_int.f k l l) true := by
 unfold railplankeep_Same_int.f
 simp only [if_true]
 exact same_loop l hl l.length 0 (by omega)
theorem samelists_loop (l : List (List Int)) (hl : l.length ≤ 1000000) (hr : ∀ r ∈ l, r.length ≤ 1000000) (d : Nat) : ∀ i : Nat, i + d = l.length → Ev (fun k => railplankeep_SameLists_int.l0 k l l (l.length : Int) (i : Int)) true := by
 induction d with
 | zero =>
  intro i hi
  refine Ev_succ ?_
  simp only [railplankeep_SameLists_int.l0]
  simp (disch := omega) only [if_neg]
  exact Ev.now _
 | succ d ih =>
  intro i hi
  refine Ev_succ ?_
  simp only [railplankeep_SameLists_int.l0]
  simp (disch := omega) only [if_pos, wr]
  refine Ev.bind (same_f _ (hr _ (by
   unfold rd_L1
   rw [List.getD_eq_getElem?_getD, List.getElem?_eq_getElem (by omega)]
   exact List.getElem_mem _))) ?_
  simp only [if_true]
  rw [show (i : Int) + 1 = ((i + 1 : Nat) : Int) by omega]
  exact ih (i + 1) (by omega)
theorem samelists_f (l : List (List Int)) (hl : l.length ≤ 1000000) (hr : ∀ r ∈ l, r.length ≤ 1000000) : Ev (fun k => railplankeep_SameLists_int.f k l l) true := by
 unfold railplankeep_SameLists_int.f
 simp only [if_true]
 exact samelists_loop l hl hr l.length 0 (by omega)
theorem samemat_f (n m : Nat) (hn : n ≤ 12) (hm : m ≤ 12) (f : Nat → Nat → Int) : Ev (fun k => railplankeep_SameLists_int.f k (mat n m f) (mat n m f)) true :=
 samelists_f _ (by rw [length_mat]; omega) (fun r hr => by
  obtain ⟨i, _, rfl⟩ := List.mem_map.1 hr
  rw [length_tab]; omega)

theorem awake_f : Ev (fun k => railplanlaw33_awake.f k) true := Ev.of (fun k => railplanlaw33_awake.mono k) (k := 40) (by decide +kernel)

theorem tb (P : Prop) : ∃ b : Bool, b = true ↔ P := by classical exact ⟨decide P, by simp⟩
theorem eq_false_of {b : Bool} {P : Prop} (h : b = true ↔ P) (n : ¬ P) : b = false := by
 cases b
 ·rfl
 ·exact absurd (h.1 rfl) n
theorem rd_getD (x : List Int) (j : Nat) : rd x (j : Int) = x.getD j 0 := by unfold rd; rw [Int.toNat_natCast]
theorem rd1_getD (x : List (List Int)) (j : Nat) : rd_L1 x (j : Int) = x.getD j [] := by unfold rd_L1; rw [Int.toNat_natCast]
theorem entry_n (x : Int) (h : ¬ en 68719476736 x) : maxplus_entry.f x = some false := by
 unfold en NV at h
 unfold maxplus_entry.f
 rw [if_neg (by omega)]
 by_cases h1 : x ≥ -68719476736
 ·rw [if_pos h1, decide_eq_false (by omega)]
 ·rw [if_neg h1]
theorem rentry_f (x : Int) (h : en 68719476736 x) : railplanref30_entry.f x = some true := by
 unfold en NV at h
 unfold railplanref30_entry.f
 by_cases h1 : x = -1125899906842624
 ·rw [if_pos h1]
 ·rw [if_neg h1, if_pos (by omega), decide_eq_true (by omega)]
theorem rentry_n (x : Int) (h : ¬ en 68719476736 x) : railplanref30_entry.f x = some false := by
 unfold en NV at h
 unfold railplanref30_entry.f
 rw [if_neg (by omega)]
 by_cases h1 : x ≥ -68719476736
 ·rw [if_pos h1, decide_eq_false (by omega)]
 ·rw [if_neg h1]
/-- A valid vector for n. -/
def VOK (n : Int) (x : List Int) : Prop := (∀ i, 0 ≤ i → i < x.length → en 68719476736 (x.getD i 0)) ∧ (x.length : Int) = n ∧ 1 ≤ n ∧ n ≤ 12
theorem vec_loop (n : Int) (x : List Int) (hx : x.length ≤ 17592186044416) (b : Bool) (d : Nat) : ∀ j : Nat, j + d = x.length → (b = true ↔ (∀ i, j ≤ i → i < x.length → en 68719476736 (x.getD i 0)) ∧ (x.length : Int) = n ∧ 1 ≤ n ∧ n ≤ 12) →
  Ev (fun k => maxplus_Vector.l0 k n x x (x.length : Int) (j : Int)) b := by
 induction d with
 | zero =>
  intro j hj hb
  refine Ev_succ ?_
  simp only [maxplus_Vector.l0]
  simp only [if_neg (show ¬ ((j : Int) < (x.length : Int)) by omega)]
  have e : (if (x.length : Int) = n then (if n ≥ 1 then (some (decide (n ≤ 12))) else (some false)) else (some false)) = some b := by
   by_cases c1 : (x.length : Int) = n
   ·rw [if_pos c1]
    by_cases c2 : n ≥ 1
    ·rw [if_pos c2]
     congr 1
     rw [Bool.eq_iff_iff, decide_eq_true_iff, hb]
     exact ⟨fun h => ⟨fun i h1 h2 => by omega, c1, c2, h⟩, fun h => h.2.2.2⟩
    ·rw [if_neg c2, eq_false_of hb (fun h => c2 h.2.2.1)]
   ·rw [if_neg c1, eq_false_of hb (fun h => c1 h.2.1)]
  rw [e]
  exact Ev.now _
 | succ d ih =>
  intro j hj hb
  refine Ev_succ ?_
  simp only [maxplus_Vector.l0]
  simp only [if_pos (show (j : Int) < (x.length : Int) by omega), if_pos (show (0 : Int) ≤ (j : Int) by omega), rd_getD]
  by_cases h : en 68719476736 (x.getD j 0)
  ·rw [entry_f _ h]
   simp only [obind, if_true]
   rw [wr (by omega) (by omega), show (j : Int) + 1 = ((j + 1 : Nat) : Int) by omega]
   refine ih (j + 1) (by omega) (hb.trans ⟨fun g => ⟨fun i h1 h2 => g.1 i (by omega) h2, g.2⟩, fun g => ⟨fun i h1 h2 => ?_, g.2⟩⟩)
   rcases Nat.eq_or_lt_of_le h1 with h3 | h3
   ·rw [← h3]; exact h
   ·exact g.1 i h3 h2
  ·rw [entry_n _ h]
   simp only [obind, Bool.false_eq_true, if_false]
   rw [eq_false_of hb (fun g => h (g.1 j (by omega) (by omega)))]
   exact Ev.now _
theorem vec_any {n : Int} {x : List Int} {b : Bool} (hx : x.length ≤ 17592186044416) (hb : b = true ↔ VOK n x) : Ev (fun k => maxplus_Vector.f k n x) b := by
 unfold maxplus_Vector.f
 exact vec_loop n x hx b x.length 0 (by omega) hb
theorem rvec_loop (x : List Int) (hx : x.length ≤ 17592186044416) (b : Bool) (d : Nat) : ∀ j : Nat, j + d = x.length → (b = true ↔ (∀ i, j ≤ i → i < x.length → en 68719476736 (x.getD i 0))) →
  Ev (fun k => railplanref30_Vector.l0 k x (x.length : Int) (j : Int)) b := by
 induction d with
 | zero =>
  intro j hj hb
  refine Ev_succ ?_
  simp only [railplanref30_Vector.l0]
  simp only [if_neg (show ¬ ((j : Int) < (x.length : Int)) by omega)]
  rw [hb.2 (fun i h1 h2 => by omega)]
  exact Ev.now _
 | succ d ih =>
  intro j hj hb
  refine Ev_succ ?_
  simp only [railplanref30_Vector.l0]
  simp only [if_pos (show (j : Int) < (x.length : Int) by omega), if_pos (show (0 : Int) ≤ (j : Int) by omega), rd_getD]
  by_cases h : en 68719476736 (x.getD j 0)
  ·rw [rentry_f _ h]
   simp only [obind, if_true]
   rw [wr (by omega) (by omega), show (j : Int) + 1 = ((j + 1 : Nat) : Int) by omega]
   refine ih (j + 1) (by omega) (hb.trans ⟨fun g i h1 h2 => g i (by omega) h2, fun g i h1 h2 => ?_⟩)
   rcases Nat.eq_or_lt_of_le h1 with h3 | h3
   ·rw [← h3]; exact h
   ·exact g i h3 h2
  ·rw [rentry_n _ h]
   simp only [obind, Bool.false_eq_true, if_false]
   rw [eq_false_of hb (fun g => h (g j (by omega) (by omega)))]
   exact Ev.now _
theorem rvec_any {n : Int} {x : List Int} {b : Bool} (hx : x.length ≤ 17592186044416) (hb : b = true ↔ VOK n x) : Ev (fun k => railplanref30_Vector.f k n x) b := by
 unfold railplanref30_Vector.f
 have no : ¬ VOK n x → Ev (fun k => railplanref30_Vector.j0 k x true) b := fun h => by
  refine Ev_succ ?_
  simp only [railplanref30_Vector.j0, if_true]
  rw [eq_false_of hb h]
  exact Ev.now _
 by_cases c1 : (x.length : Int) = n
 ·simp only [if_pos c1]
  by_cases c2 : n < 1
  ·simp only [if_pos c2]
   exact no (fun h => by have := h.2.2.1; omega)
  ·simp only [if_neg c2]
   by_cases c3 : n > 12
   ·simp only [decide_eq_true c3]
    exact no (fun h => by have := h.2.2.2; omega)
   ·simp only [decide_eq_false c3]
    refine Ev_succ ?_
    simp only [railplanref30_Vector.j0, Bool.false_eq_true, if_false]
    exact rvec_loop x hx b x.length 0 (by omega) (hb.trans ⟨fun h => h.1, fun h => ⟨h, c1, by omega, by omega⟩⟩)
 ·simp only [if_neg c1]
  exact no (fun h => c1 h.2.1)
/-- A valid matrix. -/
def COK (a : List (List Int)) : Prop := (∀ i, 0 ≤ i → i < a.length → VOK (a.length : Int) (a.getD i [])) ∧ 1 ≤ a.length ∧ a.length ≤ 12
/-- Lists of a length that there is. -/
def SMALL (a : List (List Int)) : Prop := a.length ≤ 12 ∧ ∀ i, i < a.length → (a.getD i []).length ≤ 12
theorem chk_loop (a : List (List Int)) (ha : SMALL a) (b : Bool) (d : Nat) : ∀ j : Nat, j + d = a.length → (b = true ↔ (∀ i, j ≤ i → i < a.length → VOK (a.length : Int) (a.getD i [])) ∧ 1 ≤ a.length ∧ a.length ≤ 12) →
  Ev (fun k => maxplus_Check.l0 k a a (a.length : Int) (j : Int)) b := by
 have hl := ha.1
 induction d with
 | zero =>
  intro j hj hb
  refine Ev_succ ?_
  simp only [maxplus_Check.l0]
  simp only [if_neg (show ¬ ((j : Int) < (a.length : Int)) by omega)]
  by_cases c2 : (a.length : Int) ≥ 1
  ·rw [if_pos c2, decide_eq_true (by omega), hb.2 ⟨fun i h1 h2 => by omega, by omega, by omega⟩]
   exact Ev.now _
  ·rw [if_neg c2, eq_false_of hb (fun h => by omega)]
   exact Ev.now _
 | succ d ih =>
  intro j hj hb
  refine Ev_succ ?_
  simp only [maxplus_Check.l0]
  simp only [if_pos (show (j : Int) < (a.length : Int) by omega), if_pos (show (0 : Int) ≤ (j : Int) by omega), rd1_getD]
  obtain ⟨c, hc⟩ := tb (VOK (a.length : Int) (a.getD j []))
  refine Ev.bind (vec_any (by have := ha.2 j (by omega); omega) hc) ?_
  by_cases h : VOK (a.length : Int) (a.getD j [])
  ·rw [hc.2 h]
   simp only [if_true]
   rw [wr (by omega) (by omega), show (j : Int) + 1 = ((j + 1 : Nat) : Int) by omega]
   refine ih (j + 1) (by omega) (hb.trans ⟨fun g => ⟨fun i h1 h2 => g.1 i (by omega) h2, g.2⟩, fun g => ⟨fun i h1 h2 => ?_, g.2⟩⟩)
   rcases Nat.eq_or_lt_of_le h1 with h3 | h3
   ·rw [← h3]; exact h
   ·exact g.1 i h3 h2
  ·rw [eq_false_of hc h]
   simp only [Bool.false_eq_true, if_false]
   rw [eq_false_of hb (fun g => h (g.1 j (by omega) (by omega)))]
   exact Ev.now _
theorem chk_any {a : List (List Int)} {b : Bool} (ha : SMALL a) (hb : b = true ↔ COK a) : Ev (fun k => maxplus_Check.f k a) b := by
 unfold maxplus_Check.f
 exact chk_loop a ha b a.length 0 (by omega) hb
theorem rchk_loop (a : List (List Int)) (ha : SMALL a) (b : Bool) (d : Nat) : ∀ j : Nat, j + d = a.length → (b = true ↔ (∀ i, j ≤ i → i < a.length → VOK (a.length : Int) (a.getD i []))) →
  Ev (fun k => railplanref30_CheckMatrix.l0 k (a.length : Int) a (a.length : Int) (j : Int)) b := by
 have hl := ha.1
 induction d with
 | zero =>
  intro j hj hb
  refine Ev_succ ?_
  simp only [railplanref30_CheckMatrix.l0]
  simp only [if_neg (show ¬ ((j : Int) < (a.length : Int)) by omega)]
  rw [hb.2 (fun i h1 h2 => by omega)]
  exact Ev.now _
 | succ d ih =>
  intro j hj hb
  refine Ev_succ ?_
  simp only [railplanref30_CheckMatrix.l0]
  simp only [if_pos (show (j : Int) < (a.length : Int) by omega), if_pos (show (0 : Int) ≤ (j : Int) by omega), rd1_getD]
  obtain ⟨c, hc⟩ := tb (VOK (a.length : Int) (a.getD j []))
  refine Ev.bind (rvec_any (by have := ha.2 j (by omega); omega) hc) ?_
  by_cases h : VOK (a.length : Int) (a.getD j [])
  ·rw [hc.2 h]
   simp only [if_true]
   rw [wr (by omega) (by omega), show (j : Int) + 1 = ((j + 1 : Nat) : Int) by omega]
   refine ih (j + 1) (by omega) (hb.trans ⟨fun g i h1 h2 => g i (by omega) h2, fun g i h1 h2 => ?_⟩)
   rcases Nat.eq_or_lt_of_le h1 with h3 | h3
   ·rw [← h3]; exact h
   ·exact g i h3 h2
  ·rw [eq_false_of hc h]
   simp only [Bool.false_eq_true, if_false]
   rw [eq_false_of hb (fun g => h (g j (by omega) (by omega)))]
   exact Ev.now _
theorem rchk_any {a : List (List Int)} {b : Bool} (ha : SMALL a) (hb : b = true ↔ COK a) : Ev (fun k => railplanref30_CheckMatrix.f k a) b := by
 unfold railplanref30_CheckMatrix.f
 have hl := ha.1
 by_cases c2 : (a.length : Int) < 1
 ·simp only [if_pos c2]
  refine Ev_succ ?_
  simp only [railplanref30_CheckMatrix.j0, if_true]
  rw [eq_false_of hb (fun h => by have := h.2.1; omega)]
  exact Ev.now _
 ·simp only [if_neg c2, decide_eq_false (show ¬ ((a.length : Int) > 12) by omega)]
  refine Ev_succ ?_
  simp only [railplanref30_CheckMatrix.j0, Bool.false_eq_true, if_false]
  exact rchk_loop a ha b a.length 0 (by omega) (hb.trans ⟨fun h => h.1, fun h => ⟨h, by omega, by omega⟩⟩)
theorem getD_mat (n m : Nat) (f : Nat → Nat → Int) (i : Nat) (h : i < n) : (mat n m f).getD i [] = tab m (f i) := getD_tab n _ [] i h
theorem small_mat (n m : Nat) (f : Nat → Nat → Int) (hn : n ≤ 12) (hm : m ≤ 12) : SMALL (mat n m f) :=
 ⟨by rw [length_mat]; omega, fun i hi => by rw [length_mat] at hi; rw [getD_mat n m f i hi, length_tab]; omega⟩
theorem small_nil : SMALL [] := ⟨by simp, fun i hi => by simp at hi⟩
theorem vok_tab (n : Nat) (x : Nat → Int) (h1 : 1 ≤ n) (hn : n ≤ 12) : VOK (n : Int) (tab n x) ↔ ∀ i, i < n → en 68719476736 (x i) := by
 unfold VOK
 rw [length_tab]
 constructor
 ·intro h i hi
  have := h.1 i (by omega) hi
  rw [getD_tab n x 0 i hi] at this
  exact this
 ·intro h
  exact ⟨fun i _ hi => by rw [getD_tab n x 0 i hi]; exact h i hi, rfl, by omega, by omega⟩
theorem cok_mat (n : Nat) (f : Nat → Nat → Int) (h1 : 1 ≤ n) (hn : n ≤ 12) : COK (mat n n f) ↔ bd 68719476736 n n f := by
 unfold COK
 rw [length_mat]
 constructor
 ·intro h i j hi hj
  have := h.1 i (by omega) hi
  rw [getD_mat n n f i hi, vok_tab n _ h1 hn] at this
  exact this j hj
 ·intro h
  exact ⟨fun i _ hi => by rw [getD_mat n n f i hi, vok_tab n _ h1 hn]; exact fun j hj => h i j hi hj, h1, hn⟩
theorem of_vok {n : Nat} {x : List Int} (h : VOK (n : Int) x) : ∃ g : Nat → Int, x = tab n g ∧ (∀ j, j < n → en 68719476736 (g j)) ∧ 1 ≤ n ∧ n ≤ 12 := by
 obtain ⟨h1, h2, h3, h4⟩ := h
 have e : x.length = n := by omega
 have := eq_tab x (0 : Int)
 rw [e] at this
 exact ⟨_, this, fun j hj => h1 j (by omega) (by omega), by omega, by omega⟩
theorem of_cok {a : List (List Int)} (h : COK a) : ∃ f, a = mat a.length a.length f ∧ bd 68719476736 a.length a.length f ∧ 1 ≤ a.length ∧ a.length ≤ 12 := by
 have hr : ∀ r ∈ a, r.length = a.length := by
  intro r hr
  obtain ⟨i, hi, rfl⟩ := List.getElem_of_mem hr
  have := (h.1 i (by omega) hi).2.1
  rw [List.getD_eq_getElem?_getD, List.getElem?_eq_getElem hi] at this
  exact Int.ofNat_inj.1 this
 have e := eq_mat a a.length a.length rfl hr
 refine ⟨_, e, fun i j hi hj => (h.1 i (by omega) hi).1 j (by omega) (by have := (h.1 i (by omega) hi).2.1; omega), h.2.1, h.2.2⟩
theorem same_small {l : List (List Int)} (h : SMALL l) : Ev (fun k => railplankeep_SameLists_int.f k l l) true :=
 samelists_f l (by have := h.1; omega) (fun r hr => by
  obtain ⟨i, hi, rfl⟩ := List.getElem_of_mem hr
  have := h.2 i hi
  rw [List.getD_eq_getElem?_getD, List.getElem?_eq_getElem hi] at this
  have e : (some l[i]).getD [] = l[i] := rfl
  rw [e] at this
  omega)

theorem fits_any (n m : Nat) (hn : n ≤ 12) (hm : m ≤ 12) (f : Nat → Nat → Int) (b : Bool) (hb : b = true ↔ bd 68719476736 n m f) : Ev (fun k => maxplus_fits.f k (mat n m f)) b := by
 have out : ∀ d i : Nat, i + d = n → (b = true ↔ ∀ x y, i ≤ x → x < n → y < m → en 68719476736 (f x y)) → Ev (fun k => maxplus_fits.l0 k (mat n m f) (n : Int) (i : Int)) b := by
  intro d
  induction d with
  | zero =>
   intro i hi hb
   refine Ev_succ ?_
   simp only [maxplus_fits.l0]
   simp only [if_neg (show ¬ ((i : Int) < (n : Int)) by omega)]
   rw [hb.2 (fun x y h1 h2 => by omega)]
   exact Ev.now _
  | succ d ih =>
   intro i hi hb
   refine Ev_succ ?_
   simp only [maxplus_fits.l0, length_mat]
   simp (disch := omega) only [if_pos, rd1_mat, Int.toNat_natCast, length_tab]
   have inner : ∀ e j : Nat, j + e = m → (b = true ↔ (∀ y, j ≤ y → y < m → en 68719476736 (f i y)) ∧ ∀ x y, i + 1 ≤ x → x < n → y < m → en 68719476736 (f x y)) → Ev (fun k => maxplus_fits.l1 k (mat n m f) (n : Int) (i : Int) (tab m (f i)) (m : Int) (j : Int)) b := by
    intro e
    induction e with
    | zero =>
     intro j hj hb
     refine Ev_succ ?_
     simp only [maxplus_fits.l1]
     simp (disch := omega) only [if_neg, wr]
     rw [show (i : Int) + 1 = ((i + 1 : Nat) : Int) by omega]
     exact ih (i + 1) (by omega) (hb.trans ⟨fun g => g.2, fun g => ⟨fun y h1 h2 => by omega, g⟩⟩)
    | succ e ih2 =>
     intro j hj hb
     refine Ev_succ ?_
     simp only [maxplus_fits.l1, length_tab]
     simp (disch := omega) only [if_pos, rd_tab, Int.toNat_natCast, wr]
     by_cases h : en 68719476736 (f i j)
     ·rw [entry_f _ h]
      simp only [obind, if_true]
      rw [show (j : Int) + 1 = ((j + 1 : Nat) : Int) by omega]
      refine ih2 (j + 1) (by omega) (hb.trans ⟨fun g => ⟨fun y h1 h2 => g.1 y (by omega) h2, g.2⟩, fun g => ⟨fun y h1 h2 => ?_, g.2⟩⟩)
      rcases Nat.eq_or_lt_of_le h1 with h3 | h3
      ·rw [← h3]; exact h
      ·exact g.1 y h3 h2
     ·rw [entry_n _ h]
      simp only [obind, Bool.false_eq_true, if_false]
      rw [eq_false_of hb (fun g => h (g.1 j (by omega) (by omega)))]
      exact Ev.now _
   refine inner m 0 (by omega) (hb.trans ⟨fun g => ⟨fun y _ h2 => g i y (by omega) (by omega) h2, fun x y h1 h2 h3 => g x y (by omega) h2 h3⟩, fun g x y h1 h2 h3 => ?_⟩)
   rcases Nat.eq_or_lt_of_le h1 with h4 | h4
   ·rw [← h4]; exact g.1 y (by omega) h3
   ·exact g.2 x y h4 h2 h3
 unfold maxplus_fits.f
 rw [length_mat]
 exact out n 0 (by omega) (hb.trans ⟨fun g x y _ h2 h3 => g x y h2 h3, fun g x y h2 h3 => g x y (by omega) h2 h3⟩)
theorem plus_f {A B x y : Int} (hx : en A x) (hy : en B y) (hA : A ≤ 1000000000000000) (hB : B ≤ 1000000000000000) : railplanref30_plus.f x y = some (sm x y) := by
 unfold en NV at hx hy
 unfold railplanref30_plus.f sm NV
 by_cases h1 : x = -1125899906842624
 ·rw [if_pos h1, if_pos h1]
 ·rw [if_neg h1, if_neg h1]
  by_cases h2 : y = -1125899906842624
  ·rw [if_pos h2, if_pos h2]
  ·rw [if_neg h2, if_neg h2, wr (by omega) (by omega)]
theorem raw_f {A B : Int} {n : Nat} {f g : Nat → Nat → Int} (hA : A ≤ 1000000000000000) (hB : B ≤ 1000000000000000) (hn : n ≤ 12) (hf : bd A n n f) (hg : bd B n n g) :
  Ev (fun q => railplanref30_raw.f q (mat n n f) (mat n n g)) (mat n n (mp n f g)) := by
 have l0 : ∀ d i : Nat, i + d = n → Ev (fun q => railplanref30_raw.l0 q (mat n n f) (mat n n g) (tab i (fun i => tab n (mp n f g i))) (n : Int) (i : Int)) (mat n n (mp n f g)) := by
  intro d
  induction d with
  | zero =>
   intro i hi
   refine Ev_succ ?_
   simp only [railplanref30_raw.l0]
   simp (disch := omega) only [if_neg]
   rw [show i = n by omega]
   exact Ev.now _
  | succ d ih =>
   intro i hi
   refine Ev_succ ?_
   simp only [railplanref30_raw.l0, length_mat]
   simp only [if_pos (show (i : Int) < (n : Int) by omega)]
   have l1 : ∀ d j : Nat, j + d = n → Ev (fun q => railplanref30_raw.l1 q (mat n n f) (mat n n g) (tab i (fun i => tab n (mp n f g i))) (i : Int) (tab j (mp n f g i)) (n : Int) (i : Int) (n : Int) (j : Int)) (mat n n (mp n f g)) := by
    intro d2
    induction d2 with
    | zero =>
     intro j hj
     refine Ev_succ ?_
     simp only [railplanref30_raw.l1, length_tab]
     simp (disch := omega) only [if_neg, if_pos, wr]
     rw [show j = n by omega, show (i : Int) + 1 = ((i + 1 : Nat) : Int) by omega]
     have := ih (i + 1) (by omega)
     rw [tab_succ] at this
     exact this
    | succ d2 ih2 =>
     intro j hj
     refine Ev_succ ?_
     simp only [railplanref30_raw.l1, length_mat]
     simp only [if_pos (show (j : Int) < (n : Int) by omega)]
     have l2 : ∀ d k : Nat, k + d = n → Ev (fun q => railplanref30_raw.l2 q (mat n n f) (mat n n g) (tab i (fun i => tab n (mp n f g i))) (i : Int) (tab j (mp n f g i)) (j : Int) (mxr (fun k => sm (f i k) (g k j)) k) (n : Int) (i : Int) (n : Int) (j : Int) (n : Int) (k : Int)) (mat n n (mp n f g)) := by
      intro d3
      induction d3 with
      | zero =>
       intro k hk
       refine Ev_succ ?_
       simp only [railplanref30_raw.l2, length_tab]
       simp (disch := omega) only [if_neg, if_pos, wr]
       rw [show k = n by omega, show (j : Int) + 1 = ((j + 1 : Nat) : Int) by omega]
       have := ih2 (j + 1) (by omega)
       rw [tab_succ] at this
       exact this
      | succ d3 ih3 =>
       intro k hk
       refine Ev_succ ?_
       simp only [railplanref30_raw.l2, length_mat]
       simp (disch := omega) only [if_pos, rd1_mat, rd_tab, Int.toNat_natCast, wr, length_tab]
       rw [plus_f (hf i k (by omega) (by omega)) (hg k j (by omega) (by omega)) hA hB]
       simp only [obind]
       rw [mx_eq, show (k : Int) + 1 = ((k + 1 : Nat) : Int) by omega]
       exact ih3 (k + 1) (by omega)
     exact l2 n 0 (by omega)
   exact l1 n 0 (by omega)
 unfold railplanref30_raw.f
 rw [length_mat]
 exact l0 n 0 (by omega)
/-- Both products of arbitrary lists. -/
theorem mul_any (a b : List (List Int)) (ha : SMALL a) (hb : SMALL b) : ∃ r : List (List Int) × Int, Ev (fun k => maxplus_Mul.f k a b) r ∧ Ev (fun k => railplanref30_Mul.f k a b) r ∧ SMALL r.1 ∧ (r.2 = 0 → COK r.1 ∧ r.1.length = a.length) := by
 obtain ⟨c, hc⟩ := tb (COK a)
 obtain ⟨c', hc'⟩ := tb (COK b)
 have no1 : Ev (fun k => maxplus_Mul.j0 k a b true) (([] : List (List Int)), 1) := by
  refine Ev_succ ?_
  simp only [maxplus_Mul.j0, if_true]
  exact Ev.now _
 have no2 : Ev (fun k => railplanref30_Mul.j0 k a b true) (([] : List (List Int)), 1) := by
  refine Ev_succ ?_
  simp only [railplanref30_Mul.j0, if_true]
  exact Ev.now _
 by_cases h1 : COK a
 ·by_cases h2 : COK b
  ·by_cases h3 : a.length = b.length
   ·obtain ⟨f, ef, bf, l1, l2⟩ := of_cok h1
    obtain ⟨g, eg, bg, _, _⟩ := of_cok h2
    rw [← h3] at eg bg
    generalize hn : a.length = n at *
    subst ef eg
    obtain ⟨q, hq⟩ := tb (bd 68719476736 n n (mp n f g))
    refine ⟨if q = true then (mat n n (mp n f g), 0) else ([], 8), ?_, ?_, ?_, ?_⟩
    ·unfold maxplus_Mul.f
     refine Ev.bind (chk_any ha hc) ?_
     simp only [hc.2 h1, if_true]
     refine Ev.bind (chk_any hb hc') ?_
     simp only [hc'.2 h2, if_true]
     simp only [length_mat, bne_self_eq_false]
     refine Ev_succ ?_
     simp only [maxplus_Mul.j0, Bool.false_eq_true, if_false]
     refine Ev.bind (product_f (by omega) (by omega) l2 l1 l2 l2 bf bg) ?_
     refine Ev.bind (fits_any n n l2 l2 _ q hq) ?_
     cases q
     ·exact Ev.now _
     ·exact Ev.now _
    ·unfold railplanref30_Mul.f
     refine Ev.bind (rchk_any ha hc) ?_
     simp only [hc.2 h1, if_true]
     refine Ev.bind (rchk_any hb hc') ?_
     simp only [hc'.2 h2, if_true]
     simp only [length_mat, bne_self_eq_false]
     refine Ev_succ ?_
     simp only [railplanref30_Mul.j0, Bool.false_eq_true, if_false]
     refine Ev.bind (raw_f (by omega) (by omega) l2 bf bg) ?_
     refine Ev.bind (rchk_any (small_mat n n _ l2 l2) (hq.trans (cok_mat n _ l1 l2).symm)) ?_
     cases q
     ·exact Ev.now _
     ·exact Ev.now _
    ·cases q
     ·exact small_nil
     ·exact small_mat n n _ l2 l2
    ·cases q
     ·intro h; simp at h
     ·intro _; exact ⟨(cok_mat n _ l1 l2).2 (hq.1 rfl), by show (mat n n _).length = n; rw [length_mat]⟩
   ·refine ⟨([], 1), ?_, ?_, small_nil, fun h => by simp at h⟩
    ·unfold maxplus_Mul.f
     refine Ev.bind (chk_any ha hc) ?_
     simp only [hc.2 h1, if_true]
     refine Ev.bind (chk_any hb hc') ?_
     simp only [hc'.2 h2, if_true, show ((a.length : Int) != (b.length : Int)) = true by rw [bne_iff_ne]; omega]
     exact no1
    ·unfold railplanref30_Mul.f
     refine Ev.bind (rchk_any ha hc) ?_
     simp only [hc.2 h1, if_true]
     refine Ev.bind (rchk_any hb hc') ?_
     simp only [hc'.2 h2, if_true, show ((a.length : Int) != (b.length : Int)) = true by rw [bne_iff_ne]; omega]
     exact no2
  ·refine ⟨([], 1), ?_, ?_, small_nil, fun h => by simp at h⟩
   ·unfold maxplus_Mul.f
    refine Ev.bind (chk_any ha hc) ?_
    simp only [hc.2 h1, if_true]
    refine Ev.bind (chk_any hb hc') ?_
    simp only [eq_false_of hc' h2, Bool.false_eq_true, if_false]
    exact no1
   ·unfold railplanref30_Mul.f
    refine Ev.bind (rchk_any ha hc) ?_
    simp only [hc.2 h1, if_true]
    refine Ev.bind (rchk_any hb hc') ?_
    simp only [eq_false_of hc' h2, Bool.false_eq_true, if_false]
    exact no2
 ·refine ⟨([], 1), ?_, ?_, small_nil, fun h => by simp at h⟩
  ·unfold maxplus_Mul.f
   refine Ev.bind (chk_any ha hc) ?_
   simp only [eq_false_of hc h1, Bool.false_eq_true, if_false]
   exact no1
  ·unfold railplanref30_Mul.f
   refine Ev.bind (rchk_any ha hc) ?_
   simp only [eq_false_of hc h1, Bool.false_eq_true, if_false]
   exact no2

theorem bd_un_any (n : Nat) : bd 68719476736 n n un := bd_mono (bd_un n) (by omega)
theorem unit_f (n : Nat) (hn : n ≤ 12) : Ev (fun q => railplanref30_unit.f q (n : Int)) (mat n n un) := by
 have l0 : ∀ d i : Nat, i + d = n → Ev (fun q => railplanref30_unit.l0 q (n : Int) (tab i (fun i => tab n (un i))) (i : Int)) (mat n n un) := by
  intro d
  induction d with
  | zero =>
   intro i hi
   refine Ev_succ ?_
   simp only [railplanref30_unit.l0]
   simp (disch := omega) only [if_neg]
   rw [show i = n by omega]
   exact Ev.now _
  | succ d ih =>
   intro i hi
   refine Ev_succ ?_
   simp only [railplanref30_unit.l0]
   have hw : ((n : Int)).toNat ≤ 35184372088832 := by omega
   simp only [if_pos (show (i : Int) < (n : Int) by omega), if_pos (show 0 ≤ (n : Int) by omega), if_pos hw, obind]
   simp only [Int.toNat_natCast, List.length_replicate]
   rw [replicate_tab]
   have l1 : ∀ d j : Nat, j + d = n → Ev (fun q => railplanref30_unit.l1 q (n : Int) (tab i (fun i => tab n (un i))) (i : Int) (tab n (fun b => if b < j then un i b else 0)) (n : Int) (j : Int)) (mat n n un) := by
    intro d2
    induction d2 with
    | zero =>
     intro j hj
     refine Ev_succ ?_
     simp only [railplanref30_unit.l1, length_tab]
     simp (disch := omega) only [if_neg, if_pos, wr]
     rw [show (i : Int) + 1 = ((i + 1 : Nat) : Int) by omega, tab_congr (g := un i) (fun b hb => if_pos (by omega))]
     have := ih (i + 1) (by omega)
     rw [tab_succ] at this
     exact this
    | succ d2 ih2 =>
     intro j hj
     refine Ev_succ ?_
     simp only [railplanref30_unit.l1, length_tab]
     simp only [if_pos (show (j : Int) < (n : Int) by omega), if_pos (show (0 : Int) ≤ (j : Int) by omega)]
     rw [wr (x := (j : Int) + 1) (by omega) (by omega), show (j : Int) + 1 = ((j + 1 : Nat) : Int) by omega]
     have h := ih2 (j + 1) (by omega)
     by_cases e : i = j
     ·simp only [if_pos (show (j : Int) = (i : Int) by omega)]
      rw [tab_congr (g := fun b => if b < j + 1 then un i b else 0) (fun b hb => by
       by_cases h1 : b < j
       ·rw [if_pos h1, if_pos (by omega)]
       ·rw [if_neg h1]
        by_cases h2 : b = j
        ·rw [if_pos (by omega), h2, e]; unfold un; rw [if_pos rfl]
        ·rw [if_neg (by omega)])]
      exact h
     ·simp only [if_neg (show ¬ (j : Int) = (i : Int) by omega)]
      rw [Int.toNat_natCast, set_tab]
      rw [tab_congr (g := fun b => if b < j + 1 then un i b else 0) (fun b hb => by
       by_cases h2 : b = j
       ·rw [if_pos h2, if_pos (by omega), h2]; unfold un; rw [if_neg e]
       ·rw [if_neg h2]
        by_cases h1 : b < j
        ·rw [if_pos h1, if_pos (by omega)]
        ·rw [if_neg h1, if_neg (by omega)])]
      exact h
   have h := l1 n 0 (by omega)
   rw [tab_congr (g := fun _ => (0 : Int)) (fun b hb => if_neg (by omega))] at h
   exact h
 unfold railplanref30_unit.f
 exact l0 n 0 (by omega)
theorem power_any (a : List (List Int)) (ha : SMALL a) (K : Int) (hK1 : -9223372036854775808 ≤ K) (hK2 : K ≤ 9223372036854775807) : ∃ r : List (List Int) × Int, Ev (fun k => maxplus_Power.f k a K) r ∧ Ev (fun k => railplanref30_Power.f k a K) r ∧ SMALL r.1 := by
 obtain ⟨c, hc⟩ := tb (COK a)
 by_cases h1 : COK a
 ·have no1 : Ev (fun k => maxplus_Power.j0 k a K true) (([] : List (List Int)), 4) := by
   refine Ev_succ ?_
   simp only [maxplus_Power.j0, if_true]
   exact Ev.now _
  have no2 : Ev (fun k => railplanref30_Power.j0 k a K true) (([] : List (List Int)), 4) := by
   refine Ev_succ ?_
   simp only [railplanref30_Power.j0, if_true]
   exact Ev.now _
  have st : ∀ r, (Ev (fun k => if K < 0 then maxplus_Power.j0 k a K true else maxplus_Power.j0 k a K (decide (K > 3600))) r) → Ev (fun k => maxplus_Power.f k a K) r := fun r h => by
   unfold maxplus_Power.f
   refine Ev.bind (chk_any ha hc) ?_
   simp only [hc.2 h1, if_true]
   exact h
  have st2 : ∀ r, (Ev (fun k => if K < 0 then railplanref30_Power.j0 k a K true else railplanref30_Power.j0 k a K (decide (K > 3600))) r) → Ev (fun k => railplanref30_Power.f k a K) r := fun r h => by
   unfold railplanref30_Power.f
   refine Ev.bind (rchk_any ha hc) ?_
   simp only [hc.2 h1, if_true]
   exact h
  by_cases h2 : K < 0
  ·refine ⟨([], 4), st _ ?_, st2 _ ?_, small_nil⟩
   ·simp only [if_pos h2]; exact no1
   ·simp only [if_pos h2]; exact no2
  ·by_cases h3 : K > 3600
   ·refine ⟨([], 4), st _ ?_, st2 _ ?_, small_nil⟩
    ·simp only [if_neg h2, decide_eq_true h3]; exact no1
    ·simp only [if_neg h2, decide_eq_true h3]; exact no2
   ·obtain ⟨m, rfl⟩ : ∃ m : Nat, K = (m : Int) := ⟨K.toNat, by omega⟩
    have hm : m ≤ 3600 := by omega
    have run : ∀ d k : Nat, k + d = m → ∀ p : List (List Int), SMALL p → ∃ r : List (List Int) × Int, Ev (fun q => maxplus_Power.l1 q a p (m : Int) (k : Int)) r ∧ Ev (fun q => railplanref30_Power.l0 q a (d : Int) p) r ∧ SMALL r.1 := by
     intro d
     induction d with
     | zero =>
      intro k hk p hp
      refine ⟨(p, 0), ?_, ?_, hp⟩
      ·refine Ev_succ ?_
       simp only [maxplus_Power.l1, if_neg (show ¬ ((k : Int) < (m : Int)) by omega)]
       exact Ev.now _
      ·refine Ev_succ ?_
       simp only [railplanref30_Power.l0, if_neg (show ¬ (((0 : Nat) : Int) > 0) by omega)]
       exact Ev.now _
     | succ d ih =>
      intro k hk p hp
      obtain ⟨s, hs1, hs2, hs3, _⟩ := mul_any p a hp ha
      by_cases e : s.2 = 0
      ·obtain ⟨r, hr1, hr2, hr3⟩ := ih (k + 1) (by omega) s.1 hs3
       refine ⟨r, ?_, ?_, hr3⟩
       ·refine Ev_succ ?_
        simp only [maxplus_Power.l1, if_pos (show (k : Int) < (m : Int) by omega)]
        refine Ev.bind hs1 ?_
        simp only [if_pos e]
        rw [wr (by omega) (by omega), show (k : Int) + 1 = ((k + 1 : Nat) : Int) by omega]
        exact hr1
       ·refine Ev_succ ?_
        simp only [railplanref30_Power.l0, if_pos (show ((d + 1 : Nat) : Int) > 0 by omega)]
        refine Ev.bind hs2 ?_
        simp only [if_pos e]
        rw [wr (by omega) (by omega), show ((d + 1 : Nat) : Int) - 1 = ((d : Nat) : Int) by omega]
        exact hr2
      ·refine ⟨([], s.2), ?_, ?_, small_nil⟩
       ·refine Ev_succ ?_
        simp only [maxplus_Power.l1, if_pos (show (k : Int) < (m : Int) by omega)]
        refine Ev.bind hs1 ?_
        simp only [if_neg e]
        exact Ev.now _
       ·refine Ev_succ ?_
        simp only [railplanref30_Power.l0, if_pos (show ((d + 1 : Nat) : Int) > 0 by omega)]
        refine Ev.bind hs2 ?_
        simp only [if_neg e]
        exact Ev.now _
    obtain ⟨f, ef, bf, l1, l2⟩ := of_cok h1
    generalize hn : a.length = n at *
    obtain ⟨r, hr1, hr2, hr3⟩ := run m 0 (by omega) (mat n n un) (small_mat n n un l2 l2)
    refine ⟨r, st _ ?_, st2 _ ?_, hr3⟩
    ·simp only [if_neg h2, decide_eq_false h3]
     refine Ev_succ ?_
     simp only [maxplus_Power.j0, Bool.false_eq_true, if_false, hn]
     refine Ev.bind (matrix_f n n l2 l2) ?_
     rw [length_mat]
     have diag : ∀ d i : Nat, i + d = n → Ev (fun q => maxplus_Power.l0 q a (m : Int) (mat n n (fun a b => if a = b ∧ a < i then 0 else NV)) (n : Int) (i : Int)) r := by
      intro d
      induction d with
      | zero =>
       intro i hi
       refine Ev_succ ?_
       simp only [maxplus_Power.l0]
       simp (disch := omega) only [if_neg]
       have e : mat n n (fun a b => if a = b ∧ a < i then 0 else NV) = mat n n un := mat_congr (fun a b ha _ => by
        unfold un
        by_cases h : a = b
        ·rw [if_pos ⟨h, by omega⟩, if_pos h]
        ·rw [if_neg (fun h2 => h h2.1), if_neg h])
       rw [e]
       exact hr1
      | succ d ih =>
       intro i hi
       refine Ev_succ ?_
       simp only [maxplus_Power.l0, length_mat]
       simp (disch := omega) only [if_pos, rd1_mat, Int.toNat_natCast, length_tab, wr]
       rw [set_mat, show (i : Int) + 1 = ((i + 1 : Nat) : Int) by omega]
       have e : mat n n (fun a b => if a = i ∧ b = i then 0 else if a = b ∧ a < i then 0 else NV) = mat n n (fun a b => if a = b ∧ a < i + 1 then 0 else NV) := mat_congr (fun a b ha _ => by
        by_cases h : a = i ∧ b = i
        ·rw [if_pos h, if_pos (by omega)]
        ·rw [if_neg h]
         by_cases h2 : a = b ∧ a < i
         ·rw [if_pos h2, if_pos (by omega)]
         ·rw [if_neg h2, if_neg (by omega)])
       rw [e]
       exact ih (i + 1) (by omega)
     have h := diag n 0 (by omega)
     have e : mat n n (fun a b => if a = b ∧ a < 0 then 0 else NV) = mat n n (fun _ _ => NV) := mat_congr (fun a b _ _ => if_neg (by omega))
     rw [e, show ((0 : Nat) : Int) = 0 from rfl] at h
     exact h
    ·simp only [if_neg h2, decide_eq_false h3]
     refine Ev_succ ?_
     simp only [railplanref30_Power.j0, Bool.false_eq_true, if_false, hn]
     refine Ev.bind (unit_f n l2) ?_
     exact hr2
 ·refine ⟨([], 1), ?_, ?_, small_nil⟩
  ·unfold maxplus_Power.f
   refine Ev.bind (chk_any ha hc) ?_
   simp only [eq_false_of hc h1, Bool.false_eq_true, if_false]
   exact Ev.now _
  ·unfold railplanref30_Power.f
   refine Ev.bind (rchk_any ha hc) ?_
   simp only [eq_false_of hc h1, Bool.false_eq_true, if_false]
   exact Ev.now _

theorem apply_any (a : List (List Int)) (x : List Int) (ha : SMALL a) (hx : x.length ≤ 17592186044416) : ∃ r : List Int × Int, Ev (fun k => maxplus_Apply.f k a x) r ∧ Ev (fun k => railplanref30_Apply.f k a x) r ∧ r.1.length ≤ 12 := by
 obtain ⟨c, hc⟩ := tb (COK a)
 obtain ⟨c', hc'⟩ := tb (VOK (a.length : Int) x)
 have no1 : Ev (fun k => maxplus_Apply.j0 k a x true) (([] : List Int), 1) := by
  refine Ev_succ ?_
  simp only [maxplus_Apply.j0, if_true]
  exact Ev.now _
 have no2 : Ev (fun k => railplanref30_Apply.j0 k a x true) (([] : List Int), 1) := by
  refine Ev_succ ?_
  simp only [railplanref30_Apply.j0, if_true]
  exact Ev.now _
 by_cases h1 : COK a
 ·by_cases h2 : VOK (a.length : Int) x
  ·obtain ⟨f, ef, bf, l1, l2⟩ := of_cok h1
   obtain ⟨y, ey, by_, _, _⟩ := of_vok h2
   generalize hn : a.length = n at *
   subst ef ey
   have hg : bd 68719476736 n 1 (fun k _ => y k) := fun i j hi _ => by_ i hi
   have hpr := product_f (by omega) (by omega) l2 l1 l2 (by omega) bf hg
   obtain ⟨q, hq⟩ := tb (bd 68719476736 n 1 (mp n f (fun k _ => y k)))
   have hq2 : q = true ↔ VOK (n : Int) (tab n (fun i => mp n f (fun k _ => y k) i 0)) := by
    rw [hq, vok_tab n _ l1 l2]
    exact ⟨fun h i hi => h i 0 hi (by omega), fun h i j hi hj => by rw [show j = 0 by omega]; exact h i hi⟩
   refine ⟨if q = true then (tab n (fun i => mp n f (fun k _ => y k) i 0), 0) else ([], 8), ?_, ?_, ?_⟩
   ·unfold maxplus_Apply.f
    refine Ev.bind (chk_any ha hc) ?_
    simp only [hc.2 h1, if_true, length_mat]
    refine Ev.bind (vec_any hx hc') ?_
    simp only [hc'.2 h2, Bool.not_true]
    refine Ev_succ ?_
    simp only [maxplus_Apply.j0, Bool.false_eq_true, if_false, length_tab]
    have hmf := matrix_f n 1 l2 (by omega)
    rw [show ((1 : Nat) : Int) = 1 from rfl] at hmf
    refine Ev.bind hmf ?_
    have last : ∀ d i : Nat, i + d = n → Ev (fun k => maxplus_Apply.l1 k (tab n (fun a => if a < i then mp n f (fun k _ => y k) a 0 else 0)) (mat n 1 (mp n f (fun k _ => y k))) (n : Int) (i : Int)) (tab n (fun i => mp n f (fun k _ => y k) i 0), 0) := by
     intro d
     induction d with
     | zero =>
      intro i hi
      refine Ev_succ ?_
      simp only [maxplus_Apply.l1]
      simp (disch := omega) only [if_neg]
      rw [tab_congr (g := fun i => mp n f (fun k _ => y k) i 0) (fun a ha => if_pos (by omega))]
      exact Ev.now _
     | succ d ih =>
      intro i hi
      refine Ev_succ ?_
      simp only [maxplus_Apply.l1, length_mat, length_tab]
      simp (disch := omega) only [if_pos, rd1_mat, rd_tab, Int.toNat_natCast, wr, length_tab]
      rw [show (0 : Int).toNat = 0 from rfl, set_tab, show (i : Int) + 1 = ((i + 1 : Nat) : Int) by omega]
      rw [tab_congr (g := fun a => if a < i + 1 then mp n f (fun k _ => y k) a 0 else 0) (fun a ha => by
       by_cases h : a = i
       ·subst h; rw [if_pos rfl, if_pos (by omega)]
       ·rw [if_neg h]
        by_cases h2 : a < i
        ·rw [if_pos h2, if_pos (by omega)]
        ·rw [if_neg h2, if_neg (by omega)])]
      exact ih (i + 1) (by omega)
    have first : ∀ d i : Nat, i + d = n → Ev (fun k => maxplus_Apply.l0 k (mat n n f) (mat n 1 (fun a _ => if a < i then y a else NV)) (tab n y) (n : Int) (i : Int)) (if q = true then (tab n (fun i => mp n f (fun k _ => y k) i 0), 0) else ([], 8)) := by
     intro d
     induction d with
     | zero =>
      intro i hi
      refine Ev_succ ?_
      simp only [maxplus_Apply.l0]
      simp (disch := omega) only [if_neg]
      have e : mat n 1 (fun a _ => if a < i then y a else NV) = mat n 1 (fun k _ => y k) := mat_congr (fun a b ha _ => if_pos (by omega))
      rw [e]
      refine Ev.bind hpr ?_
      refine Ev.bind (fits_any n 1 l2 (by omega) _ q hq) ?_
      cases q
      ·simp only [Bool.false_eq_true, if_false]
       exact Ev.now _
      ·have hl : ((mat n 1 (mp n f (fun k _ => y k))).length : Int).toNat = n := by rw [length_mat]; omega
       have hw : ((mat n 1 (mp n f (fun k _ => y k))).length : Int).toNat ≤ 35184372088832 := by rw [hl]; omega
       simp only [if_true, if_pos hw, if_pos (show 0 ≤ ((mat n 1 (mp n f (fun k _ => y k))).length : Int) by omega)]
       rw [hl, replicate_tab, length_mat]
       have h := last n 0 (by omega)
       rw [tab_congr (f := fun a => if a < 0 then mp n f (fun k _ => y k) a 0 else 0) (g := fun _ => 0) (fun a _ => if_neg (by omega)), show ((0 : Nat) : Int) = 0 from rfl] at h
       exact h
     | succ d ih =>
      intro i hi
      refine Ev_succ ?_
      simp only [maxplus_Apply.l0, length_mat, length_tab]
      simp (disch := omega) only [if_pos, rd1_mat, rd_tab, Int.toNat_natCast, wr, length_tab]
      rw [show (0 : Int).toNat = 0 from rfl]
      have hset := set_mat n 1 (fun a _ => if a < i then y a else NV) i 0 (y i)
      rw [show (tab 1 fun _ => if i < i then y i else NV) = tab 1 ((fun a (_ : Nat) => if a < i then y a else NV) i) from rfl, hset, show (i : Int) + 1 = ((i + 1 : Nat) : Int) by omega]
      have e : mat n 1 (fun a b => if a = i ∧ b = 0 then y i else if a < i then y a else NV) = mat n 1 (fun a _ => if a < i + 1 then y a else NV) := mat_congr (fun a b ha hb => by
       by_cases h : a = i
       ·subst h; rw [if_pos ⟨rfl, by omega⟩, if_pos (by omega)]
       ·rw [if_neg (fun h2 => h h2.1)]
        by_cases h2 : a < i
        ·rw [if_pos h2, if_pos (by omega)]
        ·rw [if_neg h2, if_neg (by omega)])
      rw [e]
      exact ih (i + 1) (by omega)
    have h := first n 0 (by omega)
    have e : mat n 1 (fun a _ => if a < 0 then y a else NV) = mat n 1 (fun _ _ => NV) := mat_congr (fun a b _ _ => if_neg (by omega))
    rw [e, show ((0 : Nat) : Int) = 0 from rfl] at h
    exact h
   ·unfold railplanref30_Apply.f
    refine Ev.bind (rchk_any ha hc) ?_
    simp only [hc.2 h1, if_true, length_mat]
    refine Ev.bind (rvec_any hx hc') ?_
    simp only [hc'.2 h2, Bool.not_true]
    refine Ev_succ ?_
    simp only [railplanref30_Apply.j0, Bool.false_eq_true, if_false, length_mat]
    have rl0 : ∀ d i : Nat, i + d = n → Ev (fun k => railplanref30_Apply.l0 k (mat n n f) (tab n y) (tab i (fun i => mp n f (fun k _ => y k) i 0)) (n : Int) (i : Int)) (if q = true then (tab n (fun i => mp n f (fun k _ => y k) i 0), 0) else ([], 8)) := by
     intro d
     induction d with
     | zero =>
      intro i hi
      refine Ev_succ ?_
      simp only [railplanref30_Apply.l0, length_mat]
      simp only [if_neg (show ¬ ((i : Int) < (n : Int)) by omega)]
      rw [show i = n by omega]
      refine Ev.bind (rvec_any (by rw [length_tab]; omega) hq2) ?_
      cases q
      ·exact Ev.now _
      ·exact Ev.now _
     | succ d ih =>
      intro i hi
      refine Ev_succ ?_
      simp only [railplanref30_Apply.l0, length_mat]
      simp only [if_pos (show ((i : Int) < (n : Int)) by omega)]
      have rl1 : ∀ e k : Nat, k + e = n → Ev (fun k' => railplanref30_Apply.l1 k' (mat n n f) (tab n y) (tab i (fun i => mp n f (fun k _ => y k) i 0)) (i : Int) (mxr (fun k => sm (f i k) (y k)) k) (n : Int) (i : Int) (n : Int) (k : Int)) (if q = true then (tab n (fun i => mp n f (fun k _ => y k) i 0), 0) else ([], 8)) := by
       intro e
       induction e with
       | zero =>
        intro k hk
        refine Ev_succ ?_
        simp only [railplanref30_Apply.l1, length_tab]
        simp (disch := omega) only [if_neg, if_pos, wr]
        rw [show k = n by omega, show (i : Int) + 1 = ((i + 1 : Nat) : Int) by omega]
        have := ih (i + 1) (by omega)
        rw [tab_succ] at this
        exact this
       | succ e ih2 =>
        intro k hk
        refine Ev_succ ?_
        simp only [railplanref30_Apply.l1, length_mat, length_tab]
        simp (disch := omega) only [if_pos, rd1_mat, rd_tab, Int.toNat_natCast, wr, length_tab]
        rw [plus_f (bf i k (by omega) (by omega)) (by_ k (by omega)) (by omega) (by omega)]
        simp only [obind]
        rw [mx_eq, show (k : Int) + 1 = ((k + 1 : Nat) : Int) by omega]
        exact ih2 (k + 1) (by omega)
      exact rl1 n 0 (by omega)
    exact rl0 n 0 (by omega)
   ·cases q
    ·simp
    ·simp only [if_true, length_tab]; exact l2
  ·refine ⟨([], 1), ?_, ?_, by simp⟩
   ·unfold maxplus_Apply.f
    refine Ev.bind (chk_any ha hc) ?_
    simp only [hc.2 h1, if_true]
    refine Ev.bind (vec_any hx hc') ?_
    simp only [eq_false_of hc' h2, Bool.not_false]
    exact no1
   ·unfold railplanref30_Apply.f
    refine Ev.bind (rchk_any ha hc) ?_
    simp only [hc.2 h1, if_true]
    refine Ev.bind (rvec_any hx hc') ?_
    simp only [eq_false_of hc' h2, Bool.not_false]
    exact no2
 ·refine ⟨([], 1), ?_, ?_, by simp⟩
  ·unfold maxplus_Apply.f
   refine Ev.bind (chk_any ha hc) ?_
   simp only [eq_false_of hc h1, Bool.false_eq_true, if_false]
   exact no1
  ·unfold railplanref30_Apply.f
   refine Ev.bind (rchk_any ha hc) ?_
   simp only [eq_false_of hc h1, Bool.false_eq_true, if_false]
   exact no2


/-- A row's delay after its first terms. -/
def nc (row z : Nat → Int) (t : Int) : Nat → Int
 | 0 => 0
 | j + 1 => if row j = NV then nc row z t j else mx (nc row z t j) (wrap64 (wrap64 (row j + z j) - t))
theorem nc_nonneg (row z : Nat → Int) (t : Int) : ∀ n, 0 ≤ nc row z t n
 | 0 => Int.le_refl _
 | n + 1 => by
  have := nc_nonneg row z t n
  unfold nc
  split
  ·exact this
  ·rw [mx_eq]; omega
theorem none_any (n : Nat) (hn : n ≤ 12) (z : Nat → Int) (b : Bool) (hb : b = true ↔ ∀ i, i < n → z i = 0) : Ev (fun k => maxplus_none.f k (tab n z)) b := by
 have lp : ∀ d j : Nat, j + d = n → (b = true ↔ ∀ i, j ≤ i → i < n → z i = 0) → Ev (fun k => maxplus_none.l0 k (tab n z) (n : Int) (j : Int)) b := by
  intro d
  induction d with
  | zero =>
   intro j hj hb
   refine Ev_succ ?_
   simp only [maxplus_none.l0, if_neg (show ¬ ((j : Int) < (n : Int)) by omega)]
   rw [hb.2 (fun i h1 h2 => by omega)]
   exact Ev.now _
  | succ d ih =>
   intro j hj hb
   refine Ev_succ ?_
   simp only [maxplus_none.l0, length_tab]
   simp (disch := omega) only [if_pos, rd_tab, Int.toNat_natCast, wr]
   by_cases h : z j = 0
   ·simp only [if_pos h]
    rw [show (j : Int) + 1 = ((j + 1 : Nat) : Int) by omega]
    refine ih (j + 1) (by omega) (hb.trans ⟨fun g i h1 h2 => g i (by omega) h2, fun g i h1 h2 => ?_⟩)
    rcases Nat.eq_or_lt_of_le h1 with h3 | h3
    ·rw [← h3]; exact h
    ·exact g i h3 h2
   ·simp only [if_neg h]
    rw [eq_false_of hb (fun g => h (g j (by omega) (by omega)))]
    exact Ev.now _
 unfold maxplus_none.f
 rw [length_tab]
 exact lp n 0 (by omega) (hb.trans ⟨fun g i _ h => g i h, fun g i h => g i (by omega) h⟩)
/-- The delays as far as row i, term j. -/
def pn (f : Nat → Nat → Int) (z : Nat → Int) (t : Int) (n i j a : Nat) : Int := if a < i then nc (f a) z t n else if a = i then nc (f a) z t j else 0
theorem pn_next (f : Nat → Nat → Int) (z : Nat → Int) (t : Int) (n i : Nat) : tab n (pn f z t n i n) = tab n (pn f z t n (i + 1) 0) := tab_congr (fun a _ => by
 unfold pn
 by_cases h1 : a < i
 ·rw [if_pos h1, if_pos (by omega)]
 ·rw [if_neg h1]
  by_cases h2 : a = i
  ·rw [if_pos h2, if_pos (by omega)]
  ·rw [if_neg h2, if_neg (by omega)]
   split
   ·rfl
   ·rfl)
theorem pn_set (f : Nat → Nat → Int) (z : Nat → Int) (t : Int) (n i j : Nat) (h : f i j ≠ NV) : tab n (fun a => if a = i then mx (pn f z t n i j i) (wrap64 (wrap64 (f i j + z j) - t)) else pn f z t n i j a) = tab n (pn f z t n i (j + 1)) := tab_congr (fun a _ => by
 unfold pn
 by_cases h1 : a = i
 ·subst h1
  simp only [Nat.lt_irrefl, if_false, if_true]
  show _ = (if f a j = NV then _ else _)
  rw [if_neg h]
 ·rw [if_neg h1, if_neg h1, if_neg h1])
theorem pn_skip (f : Nat → Nat → Int) (z : Nat → Int) (t : Int) (n i j : Nat) (h : f i j = NV) : tab n (pn f z t n i j) = tab n (pn f z t n i (j + 1)) := tab_congr (fun a _ => by
 unfold pn
 by_cases h1 : a = i
 ·subst h1
  simp only [Nat.lt_irrefl, if_false, if_true]
  show _ = (if f a j = NV then _ else _)
  rw [if_pos h]
 ·rw [if_neg h1, if_neg h1])
theorem pn_zero (f : Nat → Nat → Int) (z : Nat → Int) (t : Int) (n : Nat) : List.replicate n (0 : Int) = tab n (pn f z t n 0 0) := by
 rw [replicate_tab]
 exact tab_congr (fun a _ => by
  unfold pn
  rw [if_neg (by omega)]
  split
  ·rfl
  ·rfl)
theorem pn_all (f : Nat → Nat → Int) (z : Nat → Int) (t : Int) (n : Nat) : tab n (pn f z t n n 0) = tab n (fun i => nc (f i) z t n) := tab_congr (fun a ha => by unfold pn; rw [if_pos ha])
theorem rec_step (n : Nat) (hn : n ≤ 12) (f : Nat → Nat → Int) (t m : Int) (z : Nat → Int) (kk : Int) (r : Int × Bool)
  (hr : Ev (fun k => maxplus_Recover.l1 k (mat n n f) t m (tab n (fun i => nc (f i) z t n)) (wrap64 (kk + 1))) r) (d : Nat) : ∀ i : Nat, i + d = n →
  Ev (fun k => maxplus_Recover.l2 k (mat n n f) t m (tab n z) kk (tab n (pn f z t n i 0)) (mat n n f) (n : Int) (i : Int)) r := by
 induction d with
 | zero =>
  intro i hi
  refine Ev_succ ?_
  simp only [maxplus_Recover.l2, if_neg (show ¬ ((i : Int) < (n : Int)) by omega)]
  rw [show i = n by omega, pn_all]
  exact hr
 | succ d ih =>
  intro i hi
  refine Ev_succ ?_
  simp only [maxplus_Recover.l2, length_mat]
  simp (disch := omega) only [if_pos, rd1_mat, Int.toNat_natCast, length_tab]
  have inner : ∀ e j : Nat, j + e = n → Ev (fun k => maxplus_Recover.l3 k (mat n n f) t m (tab n z) kk (tab n (pn f z t n i j)) (i : Int) (mat n n f) (n : Int) (i : Int) (tab n (f i)) (n : Int) (j : Int)) r := by
   intro e
   induction e with
   | zero =>
    intro j hj
    refine Ev_succ ?_
    simp only [maxplus_Recover.l3, if_neg (show ¬ ((j : Int) < (n : Int)) by omega)]
    rw [wr (by omega) (by omega), show (i : Int) + 1 = ((i + 1 : Nat) : Int) by omega, show j = n by omega, pn_next]
    exact ih (i + 1) (by omega)
   | succ e ih2 =>
    intro j hj
    refine Ev_succ ?_
    simp only [maxplus_Recover.l3, length_tab]
    simp (disch := omega) only [if_pos, rd_tab, Int.toNat_natCast]
    rw [wr (x := (j : Int) + 1) (by omega) (by omega), show (j : Int) + 1 = ((j + 1 : Nat) : Int) by omega]
    by_cases h : f i j = -1125899906842624
    ·simp only [if_pos h]
     rw [pn_skip f z t n i j h]
     exact ih2 (j + 1) (by omega)
    ·simp only [if_neg h]
     rw [set_tab, pn_set f z t n i j h]
     exact ih2 (j + 1) (by omega)
  exact inner n 0 (by omega)
theorem after_f (n : Nat) (hn : n ≤ 12) (f : Nat → Nat → Int) (t : Int) (z : Nat → Int) : Ev (fun k => railplanref30_after.f k (mat n n f) (tab n z) t) (tab n (fun i => nc (f i) z t n)) := by
 have lp : ∀ d i : Nat, i + d = n → Ev (fun k => railplanref30_after.l0 k (mat n n f) (tab n z) t (tab n (pn f z t n i 0)) (n : Int) (i : Int)) (tab n (fun i => nc (f i) z t n)) := by
  intro d
  induction d with
  | zero =>
   intro i hi
   refine Ev_succ ?_
   simp only [railplanref30_after.l0, if_neg (show ¬ ((i : Int) < (n : Int)) by omega)]
   rw [show i = n by omega, pn_all]
   exact Ev.now _
  | succ d ih =>
   intro i hi
   refine Ev_succ ?_
   simp only [railplanref30_after.l0, length_mat]
   simp only [if_pos (show ((i : Int) < (n : Int)) by omega)]
   have inner : ∀ e j : Nat, j + e = n → Ev (fun k => railplanref30_after.l1 k (mat n n f) (tab n z) t (tab n (pn f z t n i j)) (i : Int) (n : Int) (i : Int) (n : Int) (j : Int)) (tab n (fun i => nc (f i) z t n)) := by
    intro e
    induction e with
    | zero =>
     intro j hj
     refine Ev_succ ?_
     simp only [railplanref30_after.l1, if_neg (show ¬ ((j : Int) < (n : Int)) by omega)]
     rw [wr (by omega) (by omega), show (i : Int) + 1 = ((i + 1 : Nat) : Int) by omega, show j = n by omega, pn_next]
     exact ih (i + 1) (by omega)
    | succ e ih2 =>
     intro j hj
     refine Ev_succ ?_
     simp only [railplanref30_after.l1, length_tab, length_mat]
     simp (disch := omega) only [if_pos, rd_tab, rd1_mat, Int.toNat_natCast, length_tab]
     rw [wr (x := (j : Int) + 1) (by omega) (by omega), show (j : Int) + 1 = ((j + 1 : Nat) : Int) by omega]
     by_cases h : f i j = -1125899906842624
     ·simp only [if_pos h]
      rw [pn_skip f z t n i j h]
      exact ih2 (j + 1) (by omega)
     ·simp only [if_neg h]
      rw [set_tab, pn_set f z t n i j h]
      exact ih2 (j + 1) (by omega)
   exact inner n 0 (by omega)
 unfold railplanref30_after.f
 rw [length_tab]
 have hw : ((n : Int)).toNat ≤ 35184372088832 := by omega
 simp only [if_pos (show 0 ≤ (n : Int) by omega), if_pos hw]
 rw [Int.toNat_natCast, pn_zero f z t n, length_mat]
 exact lp n 0 (by omega)
theorem late_any (n : Nat) (hn : n ≤ 12) (a : List (List Int)) (t m : Int) (z : Nat → Int) (hz : ∀ i, i < n → 0 ≤ z i) (kk : Int) (r : Int × Bool) (b : Bool) (hb : b = true ↔ ∀ i, i < n → z i = 0)
  (hr : Ev (fun k => if b = true then some (kk, true) else ((railplanref30_after.f k a (tab n z) t).bind fun t254 => (railplanref30_Recover.l1 k a t m t254 (wrap64 (kk + 1))))) r) (d : Nat) : ∀ (j : Nat) (l : Bool), j + d = n → (l = true ↔ ¬ ∀ i, i < j → z i = 0) →
  Ev (fun k => railplanref30_Recover.l2 k a t m (tab n z) kk l (tab n z) (n : Int) (j : Int)) r := by
 induction d with
 | zero =>
  intro j l hj hl
  refine Ev_succ ?_
  simp only [railplanref30_Recover.l2, if_neg (show ¬ ((j : Int) < (n : Int)) by omega)]
  have hl' : l = true ↔ ¬ b = true := by rw [hl, hb, show j = n by omega]
  cases b
  ·have : l = true := hl'.2 (by simp)
   subst this
   simp only [Bool.false_eq_true, if_false] at hr
   simp only [if_true]
   exact hr
  ·have : l = false := by
    cases l
    ·rfl
    ·exact absurd rfl (hl'.1 rfl)
   subst this
   simp only [Bool.false_eq_true, if_false]
   simp only [if_true] at hr
   exact hr
 | succ d ih =>
  intro j l hj hl
  refine Ev_succ ?_
  simp only [railplanref30_Recover.l2, length_tab]
  simp (disch := omega) only [if_pos, rd_tab, Int.toNat_natCast]
  rw [wr (x := (j : Int) + 1) (by omega) (by omega), show (j : Int) + 1 = ((j + 1 : Nat) : Int) by omega]
  have hzj := hz j (by omega)
  cases l
  ·simp only [Bool.false_eq_true, if_false]
   refine ih (j + 1) _ (by omega) ?_
   rw [decide_eq_true_iff]
   have h0 : ∀ i, i < j → z i = 0 := by
    by_cases h : ∀ i, i < j → z i = 0
    ·exact h
    ·exact absurd (hl.2 h) (by simp)
   constructor
   ·intro h g
    have := g j (by omega)
    omega
   ·intro h
    by_cases h1 : z j > 0
    ·exact h1
    ·refine absurd (fun i hi => ?_) h
     rcases Nat.lt_or_ge i j with h2 | h2
     ·exact h0 i h2
     ·rw [show i = j by omega]; omega
  ·simp only [if_true]
   refine ih (j + 1) _ (by omega) ⟨fun _ g => (hl.1 rfl) (fun i hi => g i (by omega)), fun _ => rfl⟩
theorem rec_loop (n : Nat) (hn : n ≤ 12) (f : Nat → Nat → Int) (t : Int) (m : Nat) (hm : m ≤ 3600) (d : Nat) : ∀ (k : Nat) (z : Nat → Int), k + d = m + 1 → (∀ i, i < n → 0 ≤ z i) →
  ∃ r : Int × Bool, Ev (fun q => maxplus_Recover.l1 q (mat n n f) t (m : Int) (tab n z) (k : Int)) r ∧ Ev (fun q => railplanref30_Recover.l1 q (mat n n f) t (m : Int) (tab n z) (k : Int)) r := by
 induction d with
 | zero =>
  intro k z hk hz
  refine ⟨(0, false), ?_, ?_⟩
  ·refine Ev_succ ?_
   simp only [maxplus_Recover.l1, if_neg (show ¬ ((k : Int) ≤ (m : Int)) by omega)]
   exact Ev.now _
  ·refine Ev_succ ?_
   simp only [railplanref30_Recover.l1, if_neg (show ¬ ((k : Int) ≤ (m : Int)) by omega)]
   exact Ev.now _
 | succ d ih =>
  intro k z hk hz
  obtain ⟨r0, h1, h2⟩ := ih (k + 1) (fun i => nc (f i) z t n) (by omega) (fun i _ => nc_nonneg _ _ _ _)
  obtain ⟨b, hb⟩ := tb (∀ i, i < n → z i = 0)
  refine ⟨if b = true then ((k : Int), true) else r0, ?_, ?_⟩
  ·refine Ev_succ ?_
   simp only [maxplus_Recover.l1, if_pos (show ((k : Int) ≤ (m : Int)) by omega)]
   refine Ev.bind (none_any n hn z b hb) ?_
   cases b
   ·simp only [Bool.false_eq_true, if_false, length_tab, length_mat]
    have hw : ((n : Int)).toNat ≤ 35184372088832 := by omega
    simp only [if_pos (show 0 ≤ (n : Int) by omega), if_pos hw]
    rw [Int.toNat_natCast, pn_zero f z t n]
    exact rec_step n hn f t m z k r0 (by rw [wr (by omega) (by omega), show (k : Int) + 1 = ((k + 1 : Nat) : Int) by omega]; exact h1) n 0 (by omega)
   ·exact Ev.now _
  ·refine Ev_succ ?_
   simp only [railplanref30_Recover.l1, if_pos (show ((k : Int) ≤ (m : Int)) by omega), length_tab]
   refine late_any n hn (mat n n f) t m z hz k _ b hb ?_ n 0 false (by omega) ⟨fun h => by simp at h, fun h => absurd (fun i hi => by omega) h⟩
   cases b
   ·simp only [Bool.false_eq_true, if_false]
    refine Ev.bind (after_f n hn f t z) ?_
    rw [wr (by omega) (by omega), show (k : Int) + 1 = ((k + 1 : Nat) : Int) by omega]
    exact h2
   ·exact Ev.now _

theorem pr_bad (a : List (List Int)) (x : List Int) (hx : x.length ≤ 17592186044416) (t m : Int) (d : Nat) : ∀ j : Nat, j + d = x.length → (¬ ∀ i, j ≤ i → i < x.length → 0 ≤ x.getD i 0 ∧ x.getD i 0 ≤ 68719476736) →
  Ev (fun k => maxplus_Recover.l0 k a x t m x (x.length : Int) (j : Int)) (0, false) := by
 induction d with
 | zero => intro j hj h; exact absurd (fun i h1 h2 => by omega) h
 | succ d ih =>
  intro j hj h
  refine Ev_succ ?_
  simp only [maxplus_Recover.l0]
  simp only [if_pos (show (j : Int) < (x.length : Int) by omega), if_pos (show (0 : Int) ≤ (j : Int) by omega), rd_getD]
  by_cases h1 : x.getD j 0 < 0
  ·simp only [if_pos h1]; exact Ev.now _
  ·by_cases h2 : x.getD j 0 > 68719476736
   ·simp only [if_neg h1, if_pos h2]; exact Ev.now _
   ·simp only [if_neg h1, if_neg h2]
    rw [wr (by omega) (by omega), show (j : Int) + 1 = ((j + 1 : Nat) : Int) by omega]
    refine ih (j + 1) (by omega) (fun g => h (fun i h3 h4 => ?_))
    rcases Nat.eq_or_lt_of_le h3 with h5 | h5
    ·rw [← h5]; omega
    ·exact g i h5 h4
theorem pr_good (a : List (List Int)) (x : List Int) (hx : x.length ≤ 17592186044000) (t m : Int) (r : Int × Bool) (hr : Ev (fun k => maxplus_Recover.l1 k a t m x 0) r) (d : Nat) : ∀ j : Nat, j + d = x.length → (∀ i, j ≤ i → i < x.length → 0 ≤ x.getD i 0 ∧ x.getD i 0 ≤ 68719476736) →
  Ev (fun k => maxplus_Recover.l0 k a x t m x (x.length : Int) (j : Int)) r := by
 induction d with
 | zero =>
  intro j hj h
  refine Ev_succ ?_
  simp only [maxplus_Recover.l0]
  simp only [if_neg (show ¬ ((j : Int) < (x.length : Int)) by omega)]
  exact hr
 | succ d ih =>
  intro j hj h
  refine Ev_succ ?_
  simp only [maxplus_Recover.l0]
  simp only [if_pos (show (j : Int) < (x.length : Int) by omega), if_pos (show (0 : Int) ≤ (j : Int) by omega), rd_getD]
  have := h j (by omega) (by omega)
  simp only [if_neg (show ¬ x.getD j 0 < 0 by omega), if_neg (show ¬ x.getD j 0 > 68719476736 by omega)]
  rw [wr (by omega) (by omega), show (j : Int) + 1 = ((j + 1 : Nat) : Int) by omega]
  exact ih (j + 1) (by omega) (fun i h3 h4 => h i (by omega) h4)

theorem rr_bad (a : List (List Int)) (x : List Int) (hx : x.length ≤ 17592186044416) (t m : Int) (d : Nat) : ∀ j : Nat, j + d = x.length → (¬ ∀ i, j ≤ i → i < x.length → 0 ≤ x.getD i 0 ∧ x.getD i 0 ≤ 68719476736) →
  Ev (fun k => railplanref30_Recover.l0 k a x t m x (x.length : Int) (j : Int)) (0, false) := by
 induction d with
 | zero => intro j hj h; exact absurd (fun i h1 h2 => by omega) h
 | succ d ih =>
  intro j hj h
  refine Ev_succ ?_
  simp only [railplanref30_Recover.l0]
  simp only [if_pos (show (j : Int) < (x.length : Int) by omega), if_pos (show (0 : Int) ≤ (j : Int) by omega), rd_getD]
  by_cases h1 : x.getD j 0 < 0
  ·simp only [if_pos h1]; exact Ev.now _
  ·by_cases h2 : x.getD j 0 > 68719476736
   ·simp only [if_neg h1, if_pos h2]; exact Ev.now _
   ·simp only [if_neg h1, if_neg h2]
    rw [wr (by omega) (by omega), show (j : Int) + 1 = ((j + 1 : Nat) : Int) by omega]
    refine ih (j + 1) (by omega) (fun g => h (fun i h3 h4 => ?_))
    rcases Nat.eq_or_lt_of_le h3 with h5 | h5
    ·rw [← h5]; omega
    ·exact g i h5 h4
theorem rr_good (a : List (List Int)) (x : List Int) (hx : x.length ≤ 17592186044000) (t m : Int) (r : Int × Bool) (hr : Ev (fun k => railplanref30_Recover.l1 k a t m x 0) r) (d : Nat) : ∀ j : Nat, j + d = x.length → (∀ i, j ≤ i → i < x.length → 0 ≤ x.getD i 0 ∧ x.getD i 0 ≤ 68719476736) →
  Ev (fun k => railplanref30_Recover.l0 k a x t m x (x.length : Int) (j : Int)) r := by
 induction d with
 | zero =>
  intro j hj h
  refine Ev_succ ?_
  simp only [railplanref30_Recover.l0]
  simp only [if_neg (show ¬ ((j : Int) < (x.length : Int)) by omega)]
  simp only [List.length_nil, List.nil_append]
  simp only [if_pos (show 0 + x.length < 17592186044416 by omega)]
  exact hr
 | succ d ih =>
  intro j hj h
  refine Ev_succ ?_
  simp only [railplanref30_Recover.l0]
  simp only [if_pos (show (j : Int) < (x.length : Int) by omega), if_pos (show (0 : Int) ≤ (j : Int) by omega), rd_getD]
  have := h j (by omega) (by omega)
  simp only [if_neg (show ¬ x.getD j 0 < 0 by omega), if_neg (show ¬ x.getD j 0 > 68719476736 by omega)]
  rw [wr (by omega) (by omega), show (j : Int) + 1 = ((j + 1 : Nat) : Int) by omega]
  exact ih (j + 1) (by omega) (fun i h3 h4 => h i (by omega) h4)

/-- Both answers of Recover, for arbitrary lists. -/
theorem recover_any (a : List (List Int)) (x : List Int) (t m : Int) (ha : SMALL a) (hx : x.length ≤ 17592186044000) : ∃ r : Int × Bool, Ev (fun k => maxplus_Recover.f k a x t m) r ∧ Ev (fun k => railplanref30_Recover.f k a x t m) r := by
 obtain ⟨c, hc⟩ := tb (COK a)
 have no1 : Ev (fun k => maxplus_Recover.j0 k a x t m true) (0, false) := by
  refine Ev_succ ?_
  simp only [maxplus_Recover.j0, if_true]
  exact Ev.now _
 have no2 : Ev (fun k => railplanref30_Recover.j0 k a x t m true) (0, false) := by
  refine Ev_succ ?_
  simp only [railplanref30_Recover.j0, if_true]
  exact Ev.now _
 by_cases h1 : COK a
 ·by_cases h2 : (x.length : Int) = (a.length : Int) ∧ ¬ t < 1 ∧ ¬ t > 7200 ∧ ¬ m < 0 ∧ ¬ m > 3600
  ·obtain ⟨g1, g2, g3, g4, g5⟩ := h2
   have go : ∃ r : Int × Bool, Ev (fun k => maxplus_Recover.j0 k a x t m false) r ∧ Ev (fun k => railplanref30_Recover.j0 k a x t m false) r := by
    by_cases h3 : ∀ i, 0 ≤ i → i < x.length → 0 ≤ x.getD i 0 ∧ x.getD i 0 ≤ 68719476736
    ·obtain ⟨f, ef, bf, l1, l2⟩ := of_cok h1
     obtain ⟨p, rfl⟩ : ∃ p : Nat, m = (p : Int) := ⟨m.toNat, by omega⟩
     have ex := eq_tab x (0 : Int)
     have hxl : x.length = a.length := by omega
     rw [hxl] at ex
     obtain ⟨r, hr1, hr2⟩ := rec_loop a.length l2 f t p (by omega) (p + 1) 0 (fun i => x.getD i 0) (by omega) (fun i hi => (h3 i (by omega) (by omega)).1)
     rw [← ex, ← ef] at hr1 hr2
     refine ⟨r, ?_, ?_⟩
     ·refine Ev_succ ?_
      simp only [maxplus_Recover.j0, Bool.false_eq_true, if_false]
      exact pr_good a x hx t p r hr1 x.length 0 (by omega) h3
     ·refine Ev_succ ?_
      simp only [railplanref30_Recover.j0, Bool.false_eq_true, if_false]
      exact rr_good a x hx t p r hr2 x.length 0 (by omega) h3
    ·refine ⟨(0, false), ?_, ?_⟩
     ·refine Ev_succ ?_
      simp only [maxplus_Recover.j0, Bool.false_eq_true, if_false]
      exact pr_bad a x (by omega) t m x.length 0 (by omega) h3
     ·refine Ev_succ ?_
      simp only [railplanref30_Recover.j0, Bool.false_eq_true, if_false]
      exact rr_bad a x (by omega) t m x.length 0 (by omega) h3
   obtain ⟨r, hr1, hr2⟩ := go
   refine ⟨r, ?_, ?_⟩
   ·unfold maxplus_Recover.f
    refine Ev.bind (chk_any ha hc) ?_
    simp only [hc.2 h1, if_true, if_pos g1, if_neg g2, if_neg g3, if_neg g4, decide_eq_false g5]
    exact hr1
   ·unfold railplanref30_Recover.f
    refine Ev.bind (rchk_any ha hc) ?_
    simp only [hc.2 h1, if_true, if_pos g1, if_neg g2, if_neg g3, if_neg g4, decide_eq_false g5]
    exact hr2
  ·refine ⟨(0, false), ?_, ?_⟩
   ·unfold maxplus_Recover.f
    refine Ev.bind (chk_any ha hc) ?_
    simp only [hc.2 h1, if_true]
    split
    ·split
     ·exact no1
     ·split
      ·exact no1
      ·split
       ·exact no1
       ·rw [decide_eq_true (by omega)]; exact no1
    ·exact no1
   ·unfold railplanref30_Recover.f
    refine Ev.bind (rchk_any ha hc) ?_
    simp only [hc.2 h1, if_true]
    split
    ·split
     ·exact no2
     ·split
      ·exact no2
      ·split
       ·exact no2
       ·rw [decide_eq_true (by omega)]; exact no2
    ·exact no2
 ·refine ⟨(0, false), ?_, ?_⟩
  ·unfold maxplus_Recover.f
   refine Ev.bind (chk_any ha hc) ?_
   simp only [eq_false_of hc h1, Bool.false_eq_true, if_false]
   exact no1
  ·unfold railplanref30_Recover.f
   refine Ev.bind (rchk_any ha hc) ?_
   simp only [eq_false_of hc h1, Bool.false_eq_true, if_false]
   exact no2

theorem square_made (l : List Int) (n : Nat) (hn : n ≤ 12) : ∃ M, Ev (fun k => railplanlaw33_square.f k (n : Int) l) M ∧ M.length = n ∧ ∀ r ∈ M, r.length = n := by
 have l0 : ∀ d i : Nat, i + d = n → ∀ M : List (List Int), M.length = i → (∀ r ∈ M, r.length = n) → ∃ M', Ev (fun k => railplanlaw33_square.l0 k (n : Int) l M (i : Int)) M' ∧ M'.length = n ∧ ∀ r ∈ M', r.length = n := by
  intro d
  induction d with
  | zero =>
   intro i hi M hM hr
   refine ⟨M, ?_, by omega, hr⟩
   refine Ev_succ ?_
   simp only [railplanlaw33_square.l0, if_neg (show ¬ ((i : Int) < (n : Int)) by omega)]
   exact Ev.now _
  | succ d ih =>
   intro i hi M hM hr
   have l1 : ∀ e j : Nat, j + e = n → ∀ row : List Int, row.length = n → ∃ M', Ev (fun k => railplanlaw33_square.l1 k (n : Int) l M (i : Int) row (n : Int) (j : Int)) M' ∧ M'.length = n ∧ ∀ r ∈ M', r.length = n := by
    intro e
    induction e with
    | zero =>
     intro j hj row hrow
     obtain ⟨M', h1, h2, h3⟩ := ih (i + 1) (by omega) (M ++ [row]) (by simp [hM]) (fun r h => by
      rcases List.mem_append.1 h with h | h
      ·exact hr r h
      ·rw [List.mem_singleton.1 h]; exact hrow)
     refine ⟨M', ?_, h2, h3⟩
     refine Ev_succ ?_
     simp only [railplanlaw33_square.l1, if_neg (show ¬ ((j : Int) < (n : Int)) by omega), if_pos (show M.length < 5864062014805 by omega)]
     rw [wr (by omega) (by omega), show (i : Int) + 1 = ((i + 1 : Nat) : Int) by omega]
     exact h1
    | succ e ih2 =>
     intro j hj row hrow
     have hij : i * n ≤ 144 := Nat.le_trans (Nat.mul_le_mul (show i ≤ 12 by omega) hn) (by omega)
     have hmul : (i : Int) * (n : Int) = ((i * n : Nat) : Int) := by push_cast; rfl
     have hidx : wrap64 (wrap64 ((i : Int) * (n : Int)) + (j : Int)) = ((i * n + j : Nat) : Int) := by
      rw [hmul, wr (x := ((i * n : Nat) : Int)) (by omega) (by omega), wr (by omega) (by omega)]
      push_cast; rfl
     obtain ⟨M1, a1, a2, a3⟩ := ih2 (j + 1) (by omega) (row.set j (-1125899906842624)) (by simp [hrow])
     obtain ⟨M2, b1, b2, b3⟩ := ih2 (j + 1) (by omega) ((row.set j (-1125899906842624)).set j (rd l ((i * n + j : Nat) : Int))) (by simp [hrow])
     by_cases h1 : ((i * n + j : Nat) : Int) < (l.length : Int)
     ·by_cases h2 : Int.tmod (rd l ((i * n + j : Nat) : Int)) 5 = 0
      ·refine ⟨M1, ?_, a2, a3⟩
       refine Ev_succ ?_
       simp only [railplanlaw33_square.l1, hrow, obind]
       rw [wr (x := (j : Int) + 1) (by omega) (by omega), show (j : Int) + 1 = ((j + 1 : Nat) : Int) by omega, hidx]
       simp only [if_pos (show ((j : Int) < (n : Int)) by omega), if_pos (show (0 : Int) ≤ (j : Int) by omega), if_pos h1, if_pos (show (0 : Int) ≤ ((i * n + j : Nat) : Int) by omega), if_pos h2, Int.toNat_natCast]
       exact a1
      ·refine ⟨M2, ?_, b2, b3⟩
       refine Ev_succ ?_
       simp only [railplanlaw33_square.l1, hrow, obind]
       rw [wr (x := (j : Int) + 1) (by omega) (by omega), show (j : Int) + 1 = ((j + 1 : Nat) : Int) by omega, hidx]
       simp only [if_pos (show ((j : Int) < (n : Int)) by omega), if_pos (show (0 : Int) ≤ (j : Int) by omega), if_pos h1, if_pos (show (0 : Int) ≤ ((i * n + j : Nat) : Int) by omega), if_neg h2, Int.toNat_natCast]
       exact b1
     ·refine ⟨M1, ?_, a2, a3⟩
      refine Ev_succ ?_
      simp only [railplanlaw33_square.l1, hrow, obind]
      rw [wr (x := (j : Int) + 1) (by omega) (by omega), show (j : Int) + 1 = ((j + 1 : Nat) : Int) by omega, hidx]
      simp only [if_pos (show ((j : Int) < (n : Int)) by omega), if_pos (show (0 : Int) ≤ (j : Int) by omega), if_neg h1, Int.toNat_natCast]
      exact a1
   obtain ⟨M', h1, h2, h3⟩ := l1 n 0 (by omega) (List.replicate n 0) (by simp)
   refine ⟨M', ?_, h2, h3⟩
   refine Ev_succ ?_
   simp only [railplanlaw33_square.l0]
   have hw : ((n : Int)).toNat ≤ 35184372088832 := by omega
   simp only [if_pos (show (i : Int) < (n : Int) by omega), if_pos (show 0 ≤ (n : Int) by omega), if_pos hw, obind]
   simp only [Int.toNat_natCast, List.length_replicate]
   exact h1
 exact l0 n 0 (by omega) [] rfl (by simp)
theorem small_of {M : List (List Int)} {n : Nat} (hn : n ≤ 12) (h1 : M.length = n) (h2 : ∀ r ∈ M, r.length ≤ 12) : SMALL M :=
 ⟨by omega, fun i hi => by
  rw [List.getD_eq_getElem?_getD, List.getElem?_eq_getElem hi]
  exact h2 _ (List.getElem_mem hi)⟩
theorem raw_j1 (x : List Int) (hx : x.length ≤ 17592186044000) (k t m : Int) (hk1 : -9223372036854775808 ≤ Int.tmod k 20) (hk2 : Int.tmod k 20 ≤ 9223372036854775807) (a b : List (List Int)) (ha : SMALL a) (hb : SMALL b) : Ev (fun q => railplanlaw33_MaxplusRaw.j1 q x k t m a b) true := by
 obtain ⟨r1, p1, q1, s1, _⟩ := mul_any a b ha hb
 obtain ⟨r2, p2, q2, s2⟩ := apply_any a x ha (by omega)
 obtain ⟨r3, p3, q3, s3⟩ := power_any a ha (Int.tmod k 20) hk1 hk2
 obtain ⟨r4, p4, q4⟩ := recover_any a x t (Int.tmod m 50) ha hx
 obtain ⟨c, hc⟩ := tb (COK a)
 obtain ⟨c', hc'⟩ := tb (VOK (a.length : Int) x)
 refine Ev_succ ?_
 simp only [railplanlaw33_MaxplusRaw.j1]
 refine Ev.bind p1 ?_
 refine Ev.bind q1 ?_
 refine Ev.bind p2 ?_
 refine Ev.bind q2 ?_
 refine Ev.bind p3 ?_
 refine Ev.bind q3 ?_
 refine Ev.bind p4 ?_
 refine Ev.bind q4 ?_
 refine Ev.bind awake_f ?_
 simp only [if_true]
 refine Ev.bind (chk_any ha hc) ?_
 refine Ev.bind (rchk_any ha hc) ?_
 simp only [beq_self_eq_true, if_true]
 refine Ev.bind (vec_any (by omega) hc') ?_
 refine Ev.bind (rvec_any (by omega) hc') ?_
 simp only [beq_self_eq_true, if_true]
 refine Ev.bind (same_small s1) ?_
 simp only [if_true]
 refine Ev.bind (same_f r2.1 (by omega)) ?_
 simp only [if_true]
 refine Ev.bind (same_small s3) ?_
 simp only [if_true]
 exact Ev.now _
theorem MaxplusRaw : railplanlaw33_MaxplusRaw.Pure := by
 intro l0 l1 l2 a3 a4 a5 a6 a7 _ _ _ _ _ _ hl2 _ _ _ _ h5 _ _
 have hx : l2.length ≤ 17592186044000 := by unfold maxLen at hl2; omega
 obtain ⟨p, hp, p0, p1⟩ := pick_f a3 4 (by omega) (by omega)
 obtain ⟨q, hq, q0, q1⟩ := pick_f (wrap64 (Int.tdiv a3 4)) 4 (by omega) (by omega)
 obtain ⟨n, hn⟩ : ∃ n : Nat, 1 + p = (n : Int) := ⟨(1 + p).toNat, by omega⟩
 obtain ⟨n', hn'⟩ : ∃ n : Nat, 1 + q = (n : Int) := ⟨(1 + q).toNat, by omega⟩
 obtain ⟨M, hM, m1, m2⟩ := square_made l0 n (by omega)
 obtain ⟨M', hM', m1', m2'⟩ := square_made l1 n' (by omega)
 have sM : SMALL M := small_of (n := n) (by omega) m1 (fun r hr => by rw [m2 r hr]; omega)
 have sM' : SMALL M' := small_of (n := n') (by omega) m1' (fun r hr => by rw [m2' r hr]; omega)
 have ht := Int.tmod_lt_of_pos a5 (show (0 : Int) < 20 by omega)
 have ht2 : -20 < Int.tmod a5 20 := by
  have := Int.tmod_lt_of_pos (-a5) (show (0 : Int) < 20 by omega)
  rw [Int.neg_tmod] at this
  omega
 have last : ∀ M, SMALL M → Ev (fun k => railplanlaw33_MaxplusRaw.j1 k l2 a5 a6 a7 M M') true := fun M sM => raw_j1 l2 hx a5 a6 a7 (by omega) (by omega) M M' sM sM'
 refine Ev.rounds ?_
 unfold railplanlaw33_MaxplusRaw.f
 rw [hp]
 simp only [obind]
 rw [wr (x := 1 + p) (by omega) (by omega), hn]
 refine Ev.bind hM ?_
 rw [hq]
 simp only [obind]
 rw [wr (x := 1 + q) (by omega) (by omega), hn']
 refine Ev.bind hM' ?_
 by_cases h : (M.length : Int) > 1
 ·obtain ⟨s, hs, s0, s1⟩ := pick_f a4 4 (by omega) (by omega)
  simp only [if_pos h]
  rw [hs]
  simp only [obind]
  refine Ev_succ ?_
  simp only [railplanlaw33_MaxplusRaw.j0]
  by_cases e : (s == 0) = true
  ·have hrow : (rd_L1 M 1).length = n := by
    have e1 : rd_L1 M 1 = M[1]'(by omega) := by
     unfold rd_L1
     rw [show (1 : Int).toNat = 1 from rfl, List.getD_eq_getElem?_getD, List.getElem?_eq_getElem (by omega)]
     rfl
    rw [e1]
    exact m2 _ (List.getElem_mem _)
   obtain ⟨u, hu, u0, u1⟩ := pick_f (wrap64 (Int.tdiv a4 4)) (n : Int) (by omega) (by omega)
   simp only [if_pos e, if_pos (show 1 < (M.length : Int) by omega), hrow]
   rw [hu]
   simp only [obind, if_pos u0, if_pos (show u ≤ (n : Int) by omega)]
   refine last _ (small_of (n := n) (by omega) (by simp [m1]) (fun r hr => ?_))
   rcases List.mem_or_eq_of_mem_set hr with h1 | h1
   ·rw [m2 r h1]; omega
   ·rw [h1, List.length_take]; omega
  ·simp only [if_neg e]
   exact last M sM
 ·simp only [if_neg h]
  refine Ev_succ ?_
  simp only [railplanlaw33_MaxplusRaw.j0, Bool.false_eq_true, if_false]
  exact last M sM

end Go.Proofs.Ytnmhdeibjglhcaa.Pure
