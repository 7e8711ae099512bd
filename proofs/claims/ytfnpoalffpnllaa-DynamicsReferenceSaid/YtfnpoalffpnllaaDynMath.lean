/- The plain mathematics of running times: integer roots, and the greatest squared speeds as two recursions. No program in sight. -/
namespace Go.Proofs.Ytfnpoalffpnllaa.DynMath

def isqN : Nat → Nat
  | 0 => 0
  | n + 1 => if (isqN n + 1) * (isqN n + 1) ≤ n + 1 then isqN n + 1 else isqN n
theorem isqN_spec : ∀ n, isqN n * isqN n ≤ n ∧ n < (isqN n + 1) * (isqN n + 1)
  | 0 => by simp [isqN]
  | n + 1 => by
    have ih := isqN_spec n
    simp only [isqN]
    generalize isqN n = r at ih
    split
    · rename_i h
      refine ⟨h, ?_⟩
      have e : (r + 1 + 1) * (r + 1 + 1) = (r + 1) * (r + 1) + 2 * (r + 1) + 1 := by grind
      omega
    · rename_i h
      have e : (r + 1) * (r + 1) = r * r + 2 * r + 1 := by grind
      omega
def isq (n : Int) : Int := (isqN n.toNat : Int)
theorem isq_nonneg (n : Int) : 0 ≤ isq n := by unfold isq; omega
theorem isq_spec (n : Int) (h : 0 ≤ n) : isq n * isq n ≤ n ∧ n < (isq n + 1) * (isq n + 1) := by
  have hs := isqN_spec n.toNat
  unfold isq
  have h1 : ((isqN n.toNat * isqN n.toNat : Nat) : Int) ≤ (n.toNat : Int) := by exact_mod_cast hs.1
  have h2 : (n.toNat : Int) < (((isqN n.toNat + 1) * (isqN n.toNat + 1) : Nat) : Int) := by exact_mod_cast hs.2
  simp only [Int.natCast_mul, Int.natCast_add, Int.toNat_of_nonneg h] at h1 h2
  exact ⟨h1, by simpa using h2⟩
theorem sq_le {a b : Int} (ha : 0 ≤ a) (h : a ≤ b) : a * a ≤ b * b := Int.mul_le_mul h h ha (by omega)
theorem root_le {n m r s : Int} (_hr : 0 ≤ r) (hs : 0 ≤ s) (h1 : r * r ≤ n) (h2 : m < (s + 1) * (s + 1)) (h : n ≤ m) : r ≤ s := by
  rcases Int.lt_or_le s r with hlt | hle
  · have := sq_le (a := s + 1) (b := r) (by omega) (by omega)
    omega
  · exact hle
theorem root_unique {n r s : Int} (hr : 0 ≤ r) (hs : 0 ≤ s) (h1 : r * r ≤ n) (h2 : n < (r + 1) * (r + 1)) (h3 : s * s ≤ n) (h4 : n < (s + 1) * (s + 1)) : r = s :=
  Int.le_antisymm (root_le hr hs h1 h4 (Int.le_refl _)) (root_le hs hr h3 h2 (Int.le_refl _))
theorem isq_mono {a b : Int} (ha : 0 ≤ a) (h : a ≤ b) : isq a ≤ isq b :=
  root_le (isq_nonneg a) (isq_nonneg b) (isq_spec a ha).1 (isq_spec b (by omega)).2 h
theorem isq_eq {n r : Int} (hr : 0 ≤ r) (h1 : r * r ≤ n) (h2 : n < (r + 1) * (r + 1)) : isq n = r := by
  have h0 : 0 ≤ n := Int.le_trans (Int.mul_nonneg hr hr) h1
  exact root_unique (isq_nonneg n) hr (isq_spec n h0).1 (isq_spec n h0).2 h1 h2
theorem isq_zero : isq 0 = 0 := isq_eq (by omega) (by omega) (by omega)
theorem isq_le {n m : Int} (hn : 0 ≤ n) (hm : 0 ≤ m) (h : n ≤ m * m) : isq n ≤ m := by
  rcases Int.lt_or_le m (isq n) with hlt | hle
  · have h1 := (isq_spec n hn).1
    have := sq_le (a := m + 1) (b := isq n) (by omega) (by omega)
    have e : (m + 1) * (m + 1) = m * m + 2 * m + 1 := by grind
    omega
  · exact hle
theorem isq_pos {n : Int} (h : 1 ≤ n) : 1 ≤ isq n := by
  have h1 := (isq_spec n (by omega)).2
  have h0 := isq_nonneg n
  rcases Int.lt_or_le (isq n) 1 with hlt | hle
  · have : isq n = 0 := by omega
    rw [this] at h1
    omega
  · exact hle

section
variable (c g l : Nat → Int)
/-- The squared speeds by the limits and the accelerations. -/
def fwd : Nat → Int
  | 0 => 0
  | i + 1 => min (c (i + 1)) (fwd i + g i)
/-- The squared speeds j boundaries ahead of the last one (n). -/
def bwd (n : Nat) : Nat → Int
  | 0 => 0
  | j + 1 => min (fwd c g (n - (j + 1))) (bwd n j + l (n - (j + 1)))
/-- The squared speed at boundary i of n. -/
def sq (n i : Nat) : Int := bwd c g l n (n - i)
end
section
variable {c g l c' g' l' : Nat → Int} {n : Nat}
theorem sq_top : sq c g l n n = 0 := by unfold sq; rw [Nat.sub_self]; rfl
theorem sq_step {i : Nat} (h : i < n) : sq c g l n i = min (fwd c g i) (sq c g l n (i + 1) + l i) := by
  unfold sq
  obtain ⟨j, hj⟩ : ∃ j, n - i = j + 1 := ⟨n - i - 1, by omega⟩
  rw [hj, show n - (i + 1) = j by omega]
  simp only [bwd]
  rw [show n - (j + 1) = i by omega]
theorem fwd_nonneg (hc : ∀ i, 1 ≤ i → i < n → 0 ≤ c i) (hg : ∀ i, i < n → 0 ≤ g i) : ∀ i, i < n → 0 ≤ fwd c g i
  | 0, _ => by simp [fwd]
  | i + 1, h => by
    have := fwd_nonneg hc hg i (by omega)
    have := hc (i + 1) (by omega) h
    have := hg i (by omega)
    simp only [fwd]
    omega
theorem fwd_le_c {i : Nat} (h : 1 ≤ i) : fwd c g i ≤ c i := by
  obtain ⟨j, rfl⟩ : ∃ j, i = j + 1 := ⟨i - 1, by omega⟩
  simp only [fwd]
  omega
theorem fwd_step (i : Nat) : fwd c g (i + 1) ≤ fwd c g i + g i := by simp only [fwd]; omega
/-- What is true from the last boundary down to boundary i. -/
theorem down {P : Nat → Prop} (hn : P n) (hs : ∀ i, i < n → P (i + 1) → P i) : ∀ i, i ≤ n → P i := by
  intro i hi
  obtain ⟨j, hj⟩ : ∃ j, n - i = j := ⟨_, rfl⟩
  induction j generalizing i with
  | zero => rw [show i = n by omega]; exact hn
  | succ j ih => exact hs i (by omega) (ih (i + 1) (by omega) (by omega))
theorem sq_nonneg (hc : ∀ i, 1 ≤ i → i < n → 0 ≤ c i) (hg : ∀ i, i < n → 0 ≤ g i) (hl : ∀ i, i < n → 0 ≤ l i) : ∀ i, i ≤ n → 0 ≤ sq c g l n i := by
  refine down (by rw [sq_top]; omega) (fun i hi ih => ?_)
  rw [sq_step hi]
  have := fwd_nonneg hc hg i hi
  have := hl i hi
  omega
theorem sq_zero (hc : ∀ i, 1 ≤ i → i < n → 0 ≤ c i) (hg : ∀ i, i < n → 0 ≤ g i) (hl : ∀ i, i < n → 0 ≤ l i) : sq c g l n 0 = 0 := by
  rcases Nat.eq_zero_or_pos n with h | h
  · subst h; exact sq_top
  · have h1 := sq_nonneg hc hg hl 1 (by omega)
    rw [sq_step h]
    have := hl 0 h
    simp only [fwd]
    rw [Nat.zero_add]
    omega
theorem sq_le_fwd {i : Nat} (h : i < n) : sq c g l n i ≤ fwd c g i := by rw [sq_step h]; omega
theorem sq_le_c {i : Nat} (h1 : 1 ≤ i) (h : i < n) : sq c g l n i ≤ c i := Int.le_trans (sq_le_fwd h) (fwd_le_c h1)
theorem sq_down {i : Nat} (h : i < n) : sq c g l n i ≤ sq c g l n (i + 1) + l i := by rw [sq_step h]; omega
theorem sq_up (hc : ∀ i, 1 ≤ i → i < n → 0 ≤ c i) (hg : ∀ i, i < n → 0 ≤ g i) (hl : ∀ i, i < n → 0 ≤ l i) {i : Nat} (h : i < n) : sq c g l n (i + 1) ≤ sq c g l n i + g i := by
  have h0 := sq_nonneg hc hg hl i (by omega)
  have hgi := hg i h
  have hli := hl i h
  rcases Nat.lt_or_ge (i + 1) n with h1 | h1
  · have := sq_le_fwd (c := c) (g := g) (l := l) h1
    have := fwd_step (c := c) (g := g) i
    rw [sq_step h]
    omega
  · rw [show i + 1 = n by omega, sq_top]
    omega
theorem fwd_lower {m : Int} (hm : 0 ≤ m) (hc : ∀ i, 1 ≤ i → i < n → m ≤ c i) (hg : ∀ i, i < n → m ≤ g i) : ∀ i, 1 ≤ i → i < n → m ≤ fwd c g i := by
  intro i h1 h
  obtain ⟨j, rfl⟩ : ∃ j, i = j + 1 := ⟨i - 1, by omega⟩
  have := fwd_nonneg (n := n) (c := c) (g := g) (fun i a b => by have := hc i a b; omega) (fun i a => by have := hg i a; omega) j (by omega)
  have := hc (j + 1) h1 h
  have := hg j (by omega)
  simp only [fwd]
  omega
theorem sq_lower {m : Int} (hm : 0 ≤ m) (hc : ∀ i, 1 ≤ i → i < n → m ≤ c i) (hg : ∀ i, i < n → m ≤ g i) (hl : ∀ i, i < n → m ≤ l i) {i : Nat} (h1 : 1 ≤ i) (h : i < n) : m ≤ sq c g l n i := by
  have := fwd_lower hm hc hg i h1 h
  have := sq_nonneg (n := n) (c := c) (g := g) (l := l) (fun i a b => by have := hc i a b; omega) (fun i a => by have := hg i a; omega) (fun i a => by have := hl i a; omega) (i + 1) (by omega)
  have := hl i h
  rw [sq_step h]
  omega
theorem fwd_mono (hc : ∀ i, 1 ≤ i → i < n → c i ≤ c' i) (hg : ∀ i, i < n → g i ≤ g' i) : ∀ i, i < n → fwd c g i ≤ fwd c' g' i
  | 0, _ => by simp [fwd]
  | i + 1, h => by
    have := fwd_mono hc hg i (by omega)
    have := hc (i + 1) (by omega) h
    have := hg i (by omega)
    simp only [fwd]
    omega
theorem sq_mono (hc : ∀ i, 1 ≤ i → i < n → c i ≤ c' i) (hg : ∀ i, i < n → g i ≤ g' i) (hl : ∀ i, i < n → l i ≤ l' i) : ∀ i, i ≤ n → sq c g l n i ≤ sq c' g' l' n i := by
  refine down (by rw [sq_top, sq_top]; omega) (fun i hi ih => ?_)
  rw [sq_step hi, sq_step hi]
  have := fwd_mono hc hg i hi
  have := hl i hi
  omega
/-- A run that ends earlier is nowhere faster. -/
theorem sq_shorter {m : Nat} (hmn : m ≤ n) (hc : ∀ i, 1 ≤ i → i < n → 0 ≤ c i) (hg : ∀ i, i < n → 0 ≤ g i) (hl : ∀ i, i < n → 0 ≤ l i) : ∀ i, i ≤ m → sq c g l m i ≤ sq c g l n i := by
  refine down (by rw [sq_top]; exact sq_nonneg hc hg hl m hmn) (fun i hi ih => ?_)
  rw [sq_step hi, sq_step (show i < n by omega)]
  omega
/-- What lies ahead of the boundaries in question alone counts. -/
theorem fwd_congr (hc : ∀ i, 1 ≤ i → i < n → c i = c' i) (hg : ∀ i, i < n → g i = g' i) (i : Nat) (h : i < n) : fwd c g i = fwd c' g' i :=
  Int.le_antisymm (fwd_mono (fun i a b => Int.le_of_eq (hc i a b)) (fun i a => Int.le_of_eq (hg i a)) i h) (fwd_mono (fun i a b => Int.le_of_eq (hc i a b).symm) (fun i a => Int.le_of_eq (hg i a).symm) i h)
theorem sq_congr (hc : ∀ i, 1 ≤ i → i < n → c i = c' i) (hg : ∀ i, i < n → g i = g' i) (hl : ∀ i, i < n → l i = l' i) (i : Nat) (h : i ≤ n) : sq c g l n i = sq c' g' l' n i :=
  Int.le_antisymm (sq_mono (fun i a b => Int.le_of_eq (hc i a b)) (fun i a => Int.le_of_eq (hg i a)) (fun i a => Int.le_of_eq (hl i a)) i h) (sq_mono (fun i a b => Int.le_of_eq (hc i a b).symm) (fun i a => Int.le_of_eq (hg i a).symm) (fun i a => Int.le_of_eq (hl i a).symm) i h)
/-- One limit, one rate. -/
theorem fwd_plain {C G : Int} (hC : 0 ≤ C) (hG : 0 ≤ G) : ∀ i, fwd (fun _ => C) (fun _ => G) i = min C ((i : Int) * G)
  | 0 => by simp [fwd]; omega
  | i + 1 => by
    have ih := fwd_plain hC hG i
    simp only [fwd]
    rw [ih]
    have e : ((i + 1 : Nat) : Int) * G = (i : Int) * G + G := by push_cast; grind
    rw [e]
    omega
theorem sq_plain {C G : Int} (hC : 0 ≤ C) (hG : 0 ≤ G) : ∀ i, i ≤ n → sq (fun _ => C) (fun _ => G) (fun _ => G) n i = min C (min ((i : Int) * G) (((n - i : Nat) : Int) * G)) := by
  refine down ?_ (fun i hi ih => ?_)
  · rw [sq_top]
    have : 0 ≤ (n : Int) * G := Int.mul_nonneg (by omega) hG
    simp
    omega
  · rw [sq_step hi, ih, fwd_plain hC hG]
    obtain ⟨d, hd⟩ : ∃ d, n - i = d + 1 := ⟨n - i - 1, by omega⟩
    rw [hd, show n - (i + 1) = d by omega]
    have e1 : ((i + 1 : Nat) : Int) * G = (i : Int) * G + G := by push_cast; grind
    have e2 : ((d + 1 : Nat) : Int) * G = (d : Int) * G + G := by push_cast; grind
    rw [e1, e2]
    omega
theorem sq_symm {C G : Int} (hC : 0 ≤ C) (hG : 0 ≤ G) (i : Nat) (h : i ≤ n) : sq (fun _ => C) (fun _ => G) (fun _ => G) n i = sq (fun _ => C) (fun _ => G) (fun _ => G) n (n - i) := by
  rw [sq_plain hC hG i h, sq_plain hC hG (n - i) (by omega), show n - (n - i) = i by omega]
  omega
end

/-- The row of a function's first values. -/
def tab {α : Type} (n : Nat) (f : Nat → α) : List α := (List.range n).map f
theorem length_tab {α : Type} (n : Nat) (f : Nat → α) : (tab n f).length = n := by simp [tab]
theorem getD_tab {α : Type} (n : Nat) (f : Nat → α) (z : α) (i : Nat) (h : i < n) : (tab n f).getD i z = f i := by
  simp [tab, List.getD_eq_getElem?_getD, h]
theorem set_tab {α : Type} (n : Nat) (f : Nat → α) (i : Nat) (v : α) : (tab n f).set i v = tab n (fun j => if j = i then v else f j) := by
  apply List.ext_getElem
  · simp [tab]
  · intro j h1 h2
    simp [tab, List.getElem_set, eq_comm]
theorem replicate_tab {α : Type} (n : Nat) (v : α) : List.replicate n v = tab n (fun _ => v) := by
  apply List.ext_getElem
  · simp [tab]
  · intro j h1 h2
    simp [tab]
theorem tab_congr {α : Type} {n : Nat} {f g : Nat → α} (h : ∀ i, i < n → f i = g i) : tab n f = tab n g := by
  apply List.ext_getElem
  · simp [tab]
  · intro j h1 h2
    simp [tab] at h1 ⊢
    exact h j h1
theorem tab_succ {α : Type} (n : Nat) (f : Nat → α) : tab (n + 1) f = tab n f ++ [f n] := by simp [tab, List.range_succ]
theorem eq_tab {α : Type} (l : List α) (z : α) : l = tab l.length (fun i => l.getD i z) := by
  apply List.ext_getElem
  · simp [tab]
  · intro j h1 h2
    simp [tab, List.getD_eq_getElem?_getD, h1]

theorem ediv_range (a b : Int) (hb : 1 ≤ b) : (0 ≤ a → 0 ≤ a / b ∧ a / b ≤ a) ∧ (a < 0 → a ≤ a / b ∧ a / b < 0) := by
  have h := Int.mul_ediv_add_emod a b
  have h1 := Int.emod_nonneg a (show b ≠ 0 by omega)
  have h2 := Int.emod_lt_of_pos a (show 0 < b by omega)
  refine ⟨fun h0 => ?_, fun h0 => ?_⟩
  · have hq : 0 ≤ a / b := Int.ediv_nonneg h0 (by omega)
    refine ⟨hq, ?_⟩
    have : a / b ≤ b * (a / b) := by
      have := Int.mul_le_mul_of_nonneg_right hb hq
      omega
    omega
  · have hq : a / b < 0 := Int.ediv_neg_of_neg_of_pos h0 (by omega)
    refine ⟨?_, hq⟩
    have h3 : (b - 1) * (a / b + 1) ≤ 0 := Int.mul_nonpos_of_nonneg_of_nonpos (by omega) (by omega)
    have h4 : (b - 1) * (a / b + 1) = b * (a / b) + b - a / b - 1 := by
      rw [Int.sub_mul, Int.mul_add]; omega
    omega
theorem tdiv_floor (a b : Int) (hb : 1 ≤ b) : Int.tdiv a b = if Int.tmod a b < 0 then a / b + 1 else a / b := by
  have h1 := Int.mul_tdiv_add_tmod a b
  have h2 := Int.mul_ediv_add_emod a b
  have h3 := Int.tmod_eq_emod (a := a) (b := b)
  have h4 := Int.tdiv_eq_ediv (a := a) (b := b)
  have h5 := Int.emod_nonneg a (show b ≠ 0 by omega)
  have h6 := Int.emod_lt_of_pos a (show 0 < b by omega)
  have hs : b.sign = 1 := Int.sign_eq_one_of_pos (by omega)
  rw [hs] at h4
  split at h3
  · rename_i h
    rw [if_pos h] at h4
    rw [if_neg (by omega)]
    omega
  · rename_i h
    rw [if_neg h] at h4
    rw [if_pos (by omega)]
    omega
theorem tmod_floor (a b : Int) (hb : 1 ≤ b) : (Int.tmod a b < 0 ∧ Int.tmod a b = a % b - b ∧ 0 < a % b) ∨ (0 ≤ Int.tmod a b ∧ Int.tmod a b = a % b) := by
  have h3 := Int.tmod_eq_emod (a := a) (b := b)
  have h5 := Int.emod_nonneg a (show b ≠ 0 by omega)
  have h6 := Int.emod_lt_of_pos a (show 0 < b by omega)
  split at h3
  · exact .inr ⟨by omega, by omega⟩
  · rename_i h
    refine .inl ⟨by omega, by omega, ?_⟩
    have : a % b ≠ 0 := fun e => h (.inr (Int.dvd_of_emod_eq_zero e))
    omega
theorem tmod_ceil (a b : Int) (hb : 1 ≤ b) : (0 < Int.tmod a b ∧ 0 < a ∧ 0 < a % b ∧ a / b < a ∨ Int.tmod a b = 0 ∧ a % b = 0 ∨ Int.tmod a b < 0 ∧ a < 0 ∧ 0 < a % b) := by
  have h := Int.mul_ediv_add_emod a b
  have h3 := Int.tmod_eq_emod (a := a) (b := b)
  have h5 := Int.emod_nonneg a (show b ≠ 0 by omega)
  have h6 := Int.emod_lt_of_pos a (show 0 < b by omega)
  have hr := ediv_range a b hb
  have key : 0 < a → 0 < a % b → a / b ≠ a := by
    intro ha hp he
    rw [he] at h
    have h7 : (b - 1) * a = b * a - a := by rw [Int.sub_mul]; omega
    have hb2 : 2 ≤ b := by omega
    have := Int.mul_le_mul_of_nonneg_right (show 1 ≤ b - 1 by omega) (show 0 ≤ a by omega)
    omega
  rcases Int.lt_trichotomy (a % b) 0 with hz | hz | hz
  · omega
  · right; left
    refine ⟨?_, hz⟩
    rw [h3, if_pos (.inr (Int.dvd_of_emod_eq_zero hz))]
    omega
  · by_cases h0 : 0 ≤ a
    · left
      rw [if_pos (.inl h0)] at h3
      have := hr.1 h0
      have : a ≠ 0 := fun e => by subst e; simp at hz
      have k := key (by omega) hz
      exact ⟨by omega, by omega, hz, by omega⟩
    · right; right
      have hd : ¬ (0 ≤ a ∨ b ∣ a) := by
        intro h; rcases h with h | h
        · exact h0 h
        · have := Int.emod_eq_zero_of_dvd h; omega
      rw [if_neg hd] at h3
      exact ⟨by omega, by omega, hz⟩

/-- A quotient, rounded up. -/
def cdiv (a b : Int) : Int := if a % b = 0 then a / b else a / b + 1
theorem cdiv_le {a b m : Int} (hb : 1 ≤ b) : cdiv a b ≤ m ↔ a ≤ m * b := by
  have h := Int.mul_ediv_add_emod a b
  have h5 := Int.emod_nonneg a (show b ≠ 0 by omega)
  have h6 := Int.emod_lt_of_pos a (show 0 < b by omega)
  have hm : ∀ q : Int, q ≤ m → b * q ≤ m * b := fun q hq => by
    rw [Int.mul_comm b q]; exact Int.mul_le_mul_of_nonneg_right hq (by omega)
  have hm2 : ∀ q : Int, m + 1 ≤ q → m * b + b ≤ b * q := fun q hq => by
    have := Int.mul_le_mul_of_nonneg_right hq (show 0 ≤ b by omega)
    rw [Int.add_mul, Int.one_mul, Int.mul_comm q b] at this
    exact this
  unfold cdiv
  split
  · rename_i h0
    constructor
    · intro hq
      have := hm _ hq
      omega
    · intro ha
      rcases Int.lt_or_le m (a / b) with hlt | hle
      · have := hm2 _ (show m + 1 ≤ a / b by omega)
        omega
      · exact hle
  · rename_i h0
    constructor
    · intro hq
      have := hm _ (show a / b + 1 ≤ m by omega)
      rw [Int.mul_add, Int.mul_one] at this
      omega
    · intro ha
      rcases Int.lt_or_le m (a / b + 1) with hlt | hle
      · rcases Int.lt_or_le m (a / b) with hlt2 | hle2
        · have := hm2 _ (show m + 1 ≤ a / b by omega)
          omega
        · have : m = a / b := by omega
          rw [this, Int.mul_comm] at ha
          omega
      · exact hle
theorem cdiv_mul {a b : Int} (hb : 1 ≤ b) : a ≤ cdiv a b * b := (cdiv_le hb).1 (Int.le_refl _)
theorem cdiv_lo {a b : Int} (ha : 1 ≤ a) (hb : 1 ≤ b) : 1 ≤ cdiv a b := by
  rcases Int.lt_or_le (cdiv a b) 1 with h | h
  · have := (cdiv_le (a := a) (m := 0) hb).1 (by omega)
    omega
  · exact h
theorem cdiv_hi {a b : Int} (ha : 0 ≤ a) (hb : 1 ≤ b) : cdiv a b ≤ a := (cdiv_le hb).2 (by
  have := Int.mul_le_mul_of_nonneg_left hb ha
  omega)
theorem cdiv_anti {a b b' : Int} (ha : 1 ≤ a) (hb : 1 ≤ b) (h : b ≤ b') : cdiv a b' ≤ cdiv a b := (cdiv_le (by omega)).2 (by
  have h1 := cdiv_mul (a := a) hb
  have h2 := Int.mul_le_mul_of_nonneg_left h (show 0 ≤ cdiv a b by have := cdiv_lo ha hb; omega)
  omega)
/-- The times, by the speeds. -/
def tms (v : Nat → Int) : Nat → Int
  | 0 => 0
  | i + 1 => tms v i + cdiv 20000000 (v i + v (i + 1))
theorem tms_range {v : Nat → Int} {n : Nat} (hv : ∀ i, i < n → 1 ≤ v i + v (i + 1)) : ∀ i, i ≤ n → 0 ≤ tms v i ∧ tms v i ≤ (i : Int) * 20000000
  | 0, _ => by simp [tms]
  | i + 1, h => by
    have ih := tms_range hv i (by omega)
    have h1 := hv i (by omega)
    have h2 := cdiv_lo (a := 20000000) (by omega) h1
    have h3 := cdiv_hi (a := 20000000) (by omega) h1
    simp only [tms]
    omega
theorem tms_mono {v v' : Nat → Int} {n : Nat} (hv : ∀ i, i < n → 1 ≤ v i + v (i + 1)) (h : ∀ i, i ≤ n → v i ≤ v' i) : ∀ i, i ≤ n → tms v' i ≤ tms v i
  | 0, _ => by simp [tms]
  | i + 1, hi => by
    have ih := tms_mono hv h i (by omega)
    have h1 := hv i (by omega)
    have h2 := h i (by omega)
    have h3 := h (i + 1) hi
    have h4 := cdiv_anti (a := 20000000) (b := v i + v (i + 1)) (b' := v' i + v' (i + 1)) (by omega) h1 (by omega)
    simp only [tms]
    omega
theorem tms_lt {v : Nat → Int} {n : Nat} (hv : ∀ i, i < n → 1 ≤ v i + v (i + 1)) (i : Nat) (h : i < n) : tms v i < tms v (i + 1) := by
  have h2 := cdiv_lo (a := 20000000) (by omega) (hv i h)
  simp only [tms]
  omega

end Go.Proofs.Ytfnpoalffpnllaa.DynMath
