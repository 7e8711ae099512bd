/- The plain mathematics of running times: integer roots, and the greatest squared speeds as two recursions. No program in sight. -/
namespace Go.Proofs.Ytfnpoalffpnllaa.DynMath

def isqN : Nat → Nat
  | 0 => 0
  | n + 1 => if (isqN n + 1) * (isqN n + 1) ≤ n + 1 then isqN n + 1 else isqN n
theorem isqN_spec : ∀ n, isqN n * isqN n ≤ n ∧ n < (isqN n + 1) * (isqN n + 1)
  | 0 => by simp [isqN]
  | n + 1 => by
    have ih := isqN_spec n
    simp only [isqN]
    generalize isqN n = r at ih
    split
    · rename_i h
      refine ⟨h, ?_⟩
      have e : (r + 1 + 1) * (r + 1 + 1) = (r + 1) * (r + 1) + 2 * (r + 1) + 1 := by grind
      omega
    · rename_i h
      have e : (r + 1) * (r + 1) = r * r + 2 * r + 1 := by grind
      omega
def isq (n : Int) : Int := (isqN n.toNat : Int)
theorem isq_nonneg (n : Int) : 0 ≤ isq n := by unfold isq; omega
theorem isq_spec (n : Int) (h : 0 ≤ n) : isq n * isq n ≤ n ∧ n < (isq n + 1) * (isq n + 1) := by
  have hs := isqN_spec n.toNat
  unfold isq
  have h1 : ((isqN n.toNat * isqN n.toNat : Nat) : Int) ≤ (n.toNat : Int) := by exact_mod_cast hs.1
  have h2 : (n.toNat : Int) < (((isqN n.toNat + 1) * (isqN n.toNat + 1) : Nat) : Int) := by exact_mod_cast hs.2
  simp only [Int.natCast_mul, Int.natCast_add, Int.toNat_of_nonneg h] at h1 h2
  exact ⟨h1, by simpa using h2⟩
theorem sq_le {a b : Int} (ha : 0 ≤ a) (h : a ≤ b) : a * a ≤ b * b := Int.mul_le_mul h h ha (by omega)
theorem root_le {n m r s : Int} (_hr : 0 ≤ r) (hs : 0 ≤ s) (h1 : r * r ≤ n) (h2 : m < (s + 1) * (s + 1)) (h : n ≤ m) : r ≤ s := by
  rcases Int.lt_or_le s r with hlt | hle
  · have := sq_le (a := s + 1) (b := r) (by omega) (by omega)
    omega
  · exact hle
theorem root_unique {n r s : Int} (hr : 0 ≤ r) (hs : 0 ≤ s) (h1 : r * r ≤ n) (h2 : n < (r + 1) * (r + 1)) (h3 : s * s ≤ n) (h4 : n < (s + 1) * (s + 1)) : r = s :=
  Int.le_antisymm (root_le hr hs h1 h4 (Int.le_refl _)) (root_le hs hr h3 h2 (Int.le_refl _))
theorem isq_mono {a b : Int} (ha : 0 ≤ a) (h : a ≤ b) : isq a ≤ isq b :=
  root_le (isq_nonneg a) (isq_nonneg b) (isq_spec a ha).1 (isq_spec b (by omega)).2 h
theorem isq_eq {n r : Int} (hr : 0 ≤ r) (h1 : r * r ≤ n) (h2 : n < (r + 1) * (r + 1)) : isq n = r := by
  have h0 : 0 ≤ n := Int.le_trans (Int.mul_nonneg hr hr) h1
  exact root_unique (isq_nonneg n) hr (isq_spec n h0).1 (isq_spec n h0).2 h1 h2
theorem isq_zero : isq 0 = 0 := isq_eq (by omega) (by omega) (by omega)
theorem isq_le {n m : Int} (hn : 0 ≤ n) (hm : 0 ≤ m) (h : n ≤ m * m) : isq n ≤ m := by
  rcases Int.lt_or_le m (isq n) with hlt | hle
  · have h1 := (isq_spec n hn).1
    have := sq_le (a := m + 1) (b := isq n) (by omega) (by omega)
    have e : (m + 1) * (m + 1) = m * m + 2 * m + 1 := by grind
    omega
  · exact hle
theorem isq_pos {n : Int} (h : 1 ≤ n) : 1 ≤ isq n := by
  have h1 := (isq_spec n (by omega)).2
  have h0 := isq_nonneg n
  rcases Int.lt_or_le (isq n) 1 with hlt | hle
  · have : isq n = 0 := by omega
    rw [this] at h1
    omega
  · exact hle

section
variable (c g l : Nat → Int)
/-- The squared speeds by the limits and the accelerations. -/
def fwd : Nat → Int
  | 0 => 0
  | i + 1 => min (c (i + 1)) (fwd i + g i)
/-- The squared speeds j boundaries ahead of the last one (n). -/
def bwd (n : Nat) : Nat → Int
  | 0 => 0
  | j + 1 => min (fwd c g (n - (j + 1))) (bwd n j + l (n - (j + 1)))
/-- The squared speed at boundary i of n. -/
def sq (n i : Nat) : Int := bwd c g l n (n - i)
end
section
variable {c g l c' g' l' : Nat → Int} {n : Nat}
theorem sq_top : sq c g l n n = 0 := by unfold sq; rw [Nat.sub_self]; rfl
theorem sq_step {i : Nat} (h : i < n) : sq c g l n i = min (fwd c g i) (sq c g l n (i + 1) + l i) := by
  unfold sq
  obtain ⟨j, hj⟩ : ∃ j, n - i = j + 1 := ⟨n - i - 1, by omega⟩
  rw [hj, show n - (i + 1) = j by omega]
  simp only [bwd]
  rw [show n - (j + 1) = i by omega]
theorem fwd_nonneg (hc : ∀ i, 1 ≤ i → i < n → 0 ≤ c i) (hg : ∀ i, i < n → 0 ≤ g i) : ∀ i, i < n → 0 ≤ fwd c g i
  | 0, _ => by simp [fwd]
  | i + 1, h => by
    have := fwd_nonneg hc hg i (by omega)
    have := hc (i + 1) (by omega) h
    have := hg i (by omega)
    simp only [fwd]
    omega
theorem fwd_le_c {i : Nat} (h : 1 ≤ i) : fwd c g i ≤ c i := by
  obtain ⟨j, rfl⟩ : ∃ j, i = j + 1 := ⟨i - 1, by omega⟩
  simp only [fwd]
  omega
theorem fwd_step (i : Nat) : fwd c g (i + 1) ≤ fwd c g i + g i := by simp only [fwd]; omega
/-- What is true from the last boundary down to boundary i. -/
theorem down {P : Nat → Prop} (hn : P n) (hs : ∀ i, i < n → P (i + 1) → P i) : ∀ i, i ≤ n → P i := by
  intro i hi
  obtain ⟨j, hj⟩ : ∃ j, n - i = j := ⟨_, rfl⟩
  induction j generalizing i with
  | zero => rw [show i = n by omega]; exact hn
  | succ j ih => exact hs i (by omega) (ih (i + 1) (by omega) (by omega))
theorem sq_nonneg (hc : ∀ i, 1 ≤ i → i < n → 0 ≤ c i) (hg : ∀ i, i < n → 0 ≤ g i) (hl : ∀ i, i < n → 0 ≤ l i) : ∀ i, i ≤ n → 0 ≤ sq c g l n i := by
  refine down (by rw [sq_top]; omega) (fun i hi ih => ?_)
  rw [sq_step hi]
  have := fwd_nonneg hc hg i hi
  have := hl i hi
  omega
theorem sq_zero (hc : ∀ i, 1 ≤ i → i < n → 0 ≤ c i) (hg : ∀ i, i < n → 0 ≤ g i) (hl : ∀ i, i < n → 0 ≤ l i) : sq c g l n 0 = 0 := by
  rcases Nat.eq_zero_or_pos n with h | h
  · subst h; exact sq_top
  · have h1 := sq_nonneg hc hg hl 1 (by omega)
    rw [sq_step h]
    have := hl 0 h
    simp only [fwd]
    rw [Nat.zero_add]
    omega
theorem sq_le_fwd {i : Nat} (h : i < n) : sq c g l n i ≤ fwd c g i := by rw [sq_step h]; omega
theorem sq_le_c {i : Nat} (h1 : 1 ≤ i) (h : i < n) : sq c g l n i ≤ c i := Int.le_trans (sq_le_fwd h) (fwd_le_c h1)
theorem sq_down {i : Nat} (h : i < n) : sq c g l n i ≤ sq c g l n (i + 1) + l i := by rw [sq_step h]; omega
theorem sq_up (hc : ∀ i, 1 ≤ i → i < n → 0 ≤ c i) (hg : ∀ i, i < n → 0 ≤ g i) (hl : ∀ i, i < n → 0 ≤ l i) {i : Nat} (h : i < n) : sq c g l n (i + 1) ≤ sq c g l n i + g i := by
  have h0 := sq_nonneg hc hg hl i (by omega)
  have hgi := hg i h
  have hli := hl i h
  rcases Nat.lt_or_ge (i + 1) n with h1 | h1
  · have := sq_le_fwd (c := c) (g := g) (l := l) h1
    have := fwd_step (c := c) (g := g) i
    rw [sq_step h]
    omega
  · rw [show i + 1 = n by omega, sq_top]
    omega
theorem fwd_lower {m : Int} (hm : 0 ≤ m) (hc : ∀ i, 1 ≤ i → i < n → m ≤ c i) (hg : ∀ i, i < n → m ≤ g i) : ∀ i, 1 ≤ i → i < n → m ≤ fwd c g i := by
  intro i h1 h
  obtain ⟨j, rfl⟩ : ∃ j, i = j + 1 := ⟨i - 1, by omega⟩
  have := fwd_nonneg (n := n) (c := c) (g := g) (fun i a b => by have := hc i a b; omega) (fun i a => by have := hg i a; omega) j (by omega)
  have := hc (j + 1) h1 h
  have := hg j (by omega)
  simp only [fwd]
  omega
theorem sq_lower {m : Int} (hm : 0 ≤ m) (hc : ∀ i, 1 ≤ i → i < n → m ≤ c i) (hg : ∀ i, i < n → m ≤ g i) (hl : ∀ i, i < n → m ≤ l i) {i : Nat} (h1 : 1 ≤ i) (h : i < n) : m ≤ sq c g l n i := by
  have := fwd_lower hm hc hg i h1 h
  have := sq_nonneg (n := n) (c := c) (g := g) (l := l) (fun i a b => by have := hc i a b; omega) (fun i a => by have := hg i a; omega) (fun i a => by have := hl i a; omega) (i + 1) (by omega)
  have := hl i h
  rw [sq_step h]
  omega
theorem fwd_mono (hc : ∀ i, 1 ≤ i → i < n → c i ≤ c' i) (hg : ∀ i, i < n → g i ≤ g' i) : ∀ i, i < n → fwd c g i ≤ fwd c' g' i
  | 0, _ => by simp [fwd]
  | i + 1, h => by
    have := fwd_mono hc hg i (by omega)
    have := hc (i + 1) (by omega) h
    have := hg i (by omega)
    simp only [fwd]
    omega
theorem sq_mono (hc : ∀ i, 1 ≤ i → i < n → c i ≤ c' i) (hg : ∀ i, i < n → g i ≤ g' i) (hl : ∀ i, i < n → l i ≤ l' i) : ∀ i, i ≤ n → sq c g l n i ≤ sq c' g' l' n i := by
  refine down (by rw [sq_top, sq_top]; omega) (fun i hi ih => ?_)
  rw [sq_step hi, sq_step hi]
  have := fwd_mono hc hg i hi
  have := hl i hi
  omega
/-- A run that ends earlier is nowhere faster. -/
theorem sq_shorter {m : Nat} (hmn : m ≤ n) (hc : ∀ i, 1 ≤ i → i < n → 0 ≤ c i) (hg : ∀ i, i < n → 0 ≤ g i) (hl : ∀ i, i < n → 0 ≤ l i) : ∀ i, i ≤ m → sq c g l m i ≤ sq c g l n i := by
  refine down (by rw [sq_top]; exact sq_nonneg hc hg hl m hmn) (fun i hi ih => ?_)
  rw [sq_step hi, sq_step (show i < n by omega)]
  omega
/-- What lies ahead of the boundaries in question alone counts. -/
theorem fwd_congr (hc : ∀ i, 1 ≤ i → i < n → c i = c' i) (hg : ∀ i, i < n → g i = g' i) (i : Nat) (h : i < n) : fwd c g i = fwd c' g' i :=
  Int.le_antisymm (fwd_mono (fun i a b => Int.le_of_eq (hc i a b)) (fun i a => Int.le_of_eq (hg i a)) i h) (fwd_mono (fun i a b => Int.le_of_eq (hc i a b).symm) (fun i a => Int.le_of_eq (hg i a).symm) i h)
theorem sq_congr (hc : ∀ i, 1 ≤ i → i < n → c i = c' i) (hg : ∀ i, i < n → g i = g' i) (hl : ∀ i, i < n → l i = l' i) (i : Nat) (h : i ≤ n) : sq c g l n i = sq c' g' l' n i :=
  Int.le_antisymm (sq_mono (fun i a b => Int.le_of_eq (hc i a b)) (fun i a => Int.le_of_eq (hg i a)) (fun i a => Int.le_of_eq (hl i a)) i h) (sq_mono (fun i a b => Int.le_of_eq (hc i a b).symm) (fun i a => Int.le_of_eq (hg i a).symm) (fun i a => Int.le_of_eq (hl i a).symm) i h)
/-- One limit, one rate. -/
theorem fwd_plain {C G : Int} (hC : 0 ≤ C) (hG : 0 ≤ G) : ∀ i, fwd (fun _ => C) (fun _ => G) i = min C ((i : Int) * G)
  | 0 => by simp [fwd]; omega
  | i + 1 => by
    have ih := fwd_plain hC hG i
    simp only [fwd]
    rw [ih]
    have e : ((i + 1 : Nat) : Int) * G = (i : Int) * G + G := by push_cast; grind
    rw [e]
    omega
theorem sq_plain {C G : Int} (hC : 0 ≤ C) (hG : 0 ≤ G) : ∀ i, i ≤ n → sq (fun _ => C) (fun _ => G) (fun _ => G) n i = min C (min ((i : Int) * G) (((n - i : Nat) : Int) * G)) := by
  refine down ?_ (fun i hi ih => ?_)
  · rw [sq_top]
    have : 0 ≤ (n : Int) * G := Int.mul_nonneg (by omega) hG
    simp
    omega
  · rw [sq_step hi, ih, fwd_plain hC hG]
    obtain ⟨d, hd⟩ : ∃ d, n - i = d + 1 := ⟨n - i - 1, by omega⟩
    rw [hd, show n - (i + 1) = d by omega]
    have e1 : ((i + 1 : Nat) : Int) * G = (i : Int) * G + G := by push_cast; grind
    have e2 : ((d + 1 : Nat) : Int) * G = (d : Int) * G + G := by push_cast; grind
    rw [e1, e2]
    omega
theorem sq_symm {C G : Int} (hC : 0 ≤ C) (hG : 0 ≤ G) (i : Nat) (h : i ≤ n) : sq (fun _ => C) (fun _ => G) (fun _ => G) n i = sq (fun _ => C) (fun _ => G) (fun _ => G) n (n - i) := by
  rw [sq_plain hC hG i h, sq_plain hC hG (n - i) (by omega), show n - (n - i) = i by omega]
  omega
end

/-- The row of a function's first values. -/
def tab {α : Type} (n : Nat) (f : Nat → α) : List α := (List.range n).map f
theorem length_tab {α : Type} (n : Nat) (f : Nat → α) : (tab n f).length = n := by simp [tab]
theorem getD_tab {α : Type} (n : Nat) (f : Nat → α) (z : α) (i : Nat) (h : i < n) : (tab n f).getD i z = f i := by
  simp [tab, List.getD_eq_getElem?_getD, h]
theorem set_tab {α : Type} (n : Nat) (f : Nat → α) (i : Nat) (v : α) : (tab n f).set i v = tab n (fun j => if j = i then v else f j) := by
  apply List.ext_getElem
  · simp [tab]
  · intro j h1 h2
    simp [tab, List.getElem_set, eq_comm]
theorem replicate_tab {α : Type} (n : Nat) (v : α) : List.replicate n v = tab n (fun _ => v) := by
  apply List.ext_getElem
  · simp [tab]
  · intro j h1 h2
    simp [tab]
theorem tab_congr {α : Type} {n : Nat} {f g : Nat → α} (h : ∀ i, i < n → f i = g i) : tab n f = tab n g := by
  apply List.ext_getElem
  · simp [tab]
  · intro j h1 h2
    simp [tab] at h1 ⊢
    exact h j h1
theorem tab_succ {α : Type} (n : Nat) (f : Nat → α) : tab (n + 1) f = tab n f ++ [f n] := by simp [tab, List.range_succ]
theorem eq_tab {α : Type} (l : List α) (z : α) : l = tab l.length (fun i => l.getD i z) := by
  apply List.ext_getElem
  · simp [tab]
  · intro j h1 h2
    simp [tab, List.getD_eq_getElem?_getD, h1]

/-- A row of 10 metres between two speeds takes at least 1 ms. -/
theorem ceil_pos {a b : Int} (ha : 1 ≤ a) (hb : 1 ≤ b) : 1 ≤ (if a % b = 0 then a / b else a / b + 1) := by
  have h1 : 0 ≤ a / b := Int.ediv_nonneg (by omega) (by omega)
  split
  · rename_i h
    have h2 := Int.mul_ediv_add_emod a b
    rcases Int.lt_or_le 0 (a / b) with h3 | h3
    · omega
    · have : a / b = 0 := by omega
      rw [this] at h2
      omega
  · omega
end Go.Proofs.Ytfnpoalffpnllaa.DynMath
