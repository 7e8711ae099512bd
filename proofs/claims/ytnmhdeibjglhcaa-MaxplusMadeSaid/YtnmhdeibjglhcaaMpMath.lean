/- The plain mathematics of max-plus matrices over whole numbers, with one number for minus infinity. No program in sight. -/
namespace Go.Proofs.Ytnmhdeibjglhcaa.MpMath

/-- Minus infinity. -/
abbrev NV : Int := -1125899906842624
/-- The sum of two entries. -/
def sm (x y : Int) : Int := if x = NV then NV else if y = NV then NV else x + y
/-- An entry: minus infinity, or a number within a bound. -/
def en (B x : Int) : Prop := x = NV ∨ (-B ≤ x ∧ x ≤ B)
theorem en_mono {A B x : Int} (h : en A x) (hAB : A ≤ B) : en B x := by unfold en at *; omega
theorem en_sm {A B x y : Int} (hx : en A x) (hy : en B y) : en (A + B) (sm x y) := by
  unfold en sm at *
  split
  · exact .inl rfl
  · split
    · exact .inl rfl
    · right; omega
theorem sm_nv (x : Int) : sm NV x = NV := by unfold sm; rw [if_pos rfl]
theorem sm_nv' (x : Int) : sm x NV = NV := by unfold sm; split <;> simp
theorem sm_comm (x y : Int) : sm x y = sm y x := by
  unfold sm
  by_cases hx : x = NV <;> by_cases hy : y = NV <;> simp [hx, hy, Int.add_comm]
/-- The bound below which no sum is minus infinity by chance. -/
abbrev LIMB : Int := 100000000000000
theorem sm_mono {A x x' y : Int} (hA : A ≤ LIMB) (hx : en A x) (hx' : en A x') (hy : en A y) (h : x ≤ x') : sm x y ≤ sm x' y := by
  unfold en LIMB sm NV at *
  split
  · split
    · omega
    · split <;> omega
  · split
    · split
      · omega
      · omega
    · split
      · omega
      · omega
theorem sm_assoc {A x y z : Int} (hA : A ≤ LIMB) (hx : en A x) (hy : en A y) (hz : en A z) : sm (sm x y) z = sm x (sm y z) := by
  unfold en LIMB NV at *
  unfold sm NV
  by_cases h1 : x = -1125899906842624
  · simp [h1]
  · by_cases h2 : y = -1125899906842624
    · simp [h1, h2]
    · by_cases h3 : z = -1125899906842624
      · simp [h1, h2, h3]
      · rw [if_neg h1, if_neg h2, if_neg (by omega), if_neg h3, if_neg h1, if_neg h2, if_neg h3, if_neg (by omega)]
        omega
/-- The greatest of the first n. -/
def mxr (h : Nat → Int) : Nat → Int
  | 0 => NV
  | n + 1 => max (mxr h n) (h n)
theorem mxr_le (h : Nat → Int) (m : Int) : ∀ n, mxr h n ≤ m ↔ NV ≤ m ∧ ∀ k, k < n → h k ≤ m
  | 0 => by simp [mxr]
  | n + 1 => by
    have ih := mxr_le h m n
    simp only [mxr]
    constructor
    · intro hm
      have h1 := ih.1 (by omega)
      refine ⟨h1.1, fun k hk => ?_⟩
      rcases Nat.lt_or_ge k n with h2 | h2
      · exact h1.2 k h2
      · rw [show k = n by omega]; omega
    · intro hm
      have h1 := ih.2 ⟨hm.1, fun k hk => hm.2 k (by omega)⟩
      have h2 := hm.2 n (by omega)
      omega
theorem le_mxr (h : Nat → Int) {n k : Nat} (hk : k < n) : h k ≤ mxr h n := ((mxr_le h _ n).1 (Int.le_refl _)).2 k hk
theorem nv_mxr (h : Nat → Int) (n : Nat) : NV ≤ mxr h n := ((mxr_le h _ n).1 (Int.le_refl _)).1
theorem mxr_mem (h : Nat → Int) : ∀ n, mxr h n = NV ∨ ∃ k, k < n ∧ mxr h n = h k
  | 0 => .inl rfl
  | n + 1 => by
    simp only [mxr]
    rcases Int.le_total (h n) (mxr h n) with hle | hle
    · rw [Int.max_eq_left hle]
      rcases mxr_mem h n with h1 | ⟨k, hk, h1⟩
      · exact .inl h1
      · exact .inr ⟨k, by omega, h1⟩
    · rw [Int.max_eq_right hle]
      exact .inr ⟨n, by omega, rfl⟩
theorem en_mxr {B : Int} (h : Nat → Int) (n : Nat) (hh : ∀ k, k < n → en B (h k)) : en B (mxr h n) := by
  rcases mxr_mem h n with h1 | ⟨k, hk, h1⟩
  · exact .inl h1
  · rw [h1]; exact hh k hk
theorem mxr_congr {h g : Nat → Int} : ∀ n, (∀ k, k < n → h k = g k) → mxr h n = mxr g n
  | 0, _ => rfl
  | n + 1, e => by simp only [mxr]; rw [mxr_congr n (fun k hk => e k (by omega)), e n (by omega)]

/-- The product of two matrices with p columns and p rows. -/
def mp (p : Nat) (f g : Nat → Nat → Int) (i j : Nat) : Int := mxr (fun k => sm (f i k) (g k j)) p
/-- A matrix with entries within a bound. -/
def bd (B : Int) (n m : Nat) (f : Nat → Nat → Int) : Prop := ∀ i j, i < n → j < m → en B (f i j)
theorem bd_mono {A B : Int} {n m : Nat} {f : Nat → Nat → Int} (h : bd A n m f) (hAB : A ≤ B) : bd B n m f := fun i j hi hj => en_mono (h i j hi hj) hAB
theorem bd_mp {A B : Int} {n p m : Nat} {f g : Nat → Nat → Int} (hf : bd A n p f) (hg : bd B p m g) : bd (A + B) n m (mp p f g) :=
  fun i j hi hj => en_mxr _ p (fun k hk => en_sm (hf i k hi hk) (hg k j hk hj))
theorem mp_congr {p : Nat} {f f' g g' : Nat → Nat → Int} {i j : Nat} (hf : ∀ k, k < p → f i k = f' i k) (hg : ∀ k, k < p → g k j = g' k j) : mp p f g i j = mp p f' g' i j :=
  mxr_congr p (fun k hk => by rw [hf k hk, hg k hk])
theorem mp_assoc {A : Int} {n p q m : Nat} {f g h : Nat → Nat → Int} (hA0 : 0 ≤ A) (hA : 2 * A ≤ LIMB) (hf : bd A n p f) (hg : bd A p q g) (hh : bd A q m h) (i j : Nat) (hi : i < n) (hj : j < m) :
    mp q (mp p f g) h i j = mp p f (mp q g h) i j := by
  have e2 : ∀ x, en A x → en (2 * A) x := fun x hx => en_mono hx (by omega)
  have efg : ∀ l, l < q → en (2 * A) (mp p f g i l) := fun l hl => en_mono (bd_mp hf hg i l hi hl) (by omega)
  have egh : ∀ k, k < p → en (2 * A) (mp q g h k j) := fun k hk => en_mono (bd_mp hg hh k j hk hj) (by omega)
  apply Int.le_antisymm
  · refine (mxr_le _ _ _).2 ⟨nv_mxr _ _, fun l hl => ?_⟩
    show sm (mp p f g i l) (h l j) ≤ _
    rcases mxr_mem (fun k => sm (f i k) (g k l)) p with h1 | ⟨k, hk, h1⟩
    · have : mp p f g i l = NV := h1
      rw [this, sm_nv]
      exact nv_mxr _ _
    · have : mp p f g i l = sm (f i k) (g k l) := h1
      rw [this, sm_assoc (by omega) (hf i k hi hk) (hg k l hk hl) (hh l j hl hj)]
      refine Int.le_trans ?_ (le_mxr (fun k => sm (f i k) (mp q g h k j)) hk)
      show sm (f i k) (sm (g k l) (h l j)) ≤ sm (f i k) (mp q g h k j)
      rw [sm_comm, sm_comm (f i k)]
      exact sm_mono hA (by have := en_sm (hg k l hk hl) (hh l j hl hj); exact en_mono this (by omega)) (egh k hk) (e2 _ (hf i k hi hk)) (le_mxr (fun l => sm (g k l) (h l j)) hl)
  · refine (mxr_le _ _ _).2 ⟨nv_mxr _ _, fun k hk => ?_⟩
    show sm (f i k) (mp q g h k j) ≤ _
    rcases mxr_mem (fun l => sm (g k l) (h l j)) q with h1 | ⟨l, hl, h1⟩
    · have : mp q g h k j = NV := h1
      rw [this, sm_nv']
      exact nv_mxr _ _
    · have : mp q g h k j = sm (g k l) (h l j) := h1
      rw [this, ← sm_assoc (by omega) (hf i k hi hk) (hg k l hk hl) (hh l j hl hj)]
      refine Int.le_trans ?_ (le_mxr (fun l => sm (mp p f g i l) (h l j)) hl)
      show sm (sm (f i k) (g k l)) (h l j) ≤ sm (mp p f g i l) (h l j)
      exact sm_mono hA (by have := en_sm (hf i k hi hk) (hg k l hk hl); exact en_mono this (by omega)) (efg l hl) (e2 _ (hh l j hl hj)) (le_mxr (fun k => sm (f i k) (g k l)) hk)
/-- The power 0, and the k-th one. -/
def un (i j : Nat) : Int := if i = j then 0 else NV
def pw (n : Nat) (f : Nat → Nat → Int) : Nat → Nat → Nat → Int
  | 0 => un
  | k + 1 => mp n (pw n f k) f
theorem bd_un (n : Nat) : bd 0 n n un := fun i j _ _ => by unfold un en; split <;> omega
theorem bd_pw {B : Int} {n : Nat} {f : Nat → Nat → Int} (hf : bd B n n f) : ∀ k : Nat, bd (k * B) n n (pw n f k)
  | 0 => by
    rw [show ((0 : Nat) : Int) * B = 0 by simp]
    exact bd_un n
  | k + 1 => by
    have h := bd_mp (bd_pw hf k) hf
    have e : (k : Int) * B + B = ((k + 1 : Nat) : Int) * B := by push_cast; grind
    rw [e] at h
    exact h
theorem mp_un {B : Int} (hB : B ≤ LIMB) {n m : Nat} {f : Nat → Nat → Int} (hf : bd B n m f) (i j : Nat) (hi : i < n) (hj : j < m) : mp n un f i j = f i j := by
  have h0 := hf i j hi hj
  apply Int.le_antisymm
  · refine (mxr_le _ _ _).2 ⟨by unfold en LIMB NV at *; omega, fun k hk => ?_⟩
    show sm (un i k) (f k j) ≤ _
    unfold un
    split
    · rename_i e; subst e
      unfold en LIMB NV at *
      unfold sm NV
      split
      · omega
      · split <;> omega
    · rw [sm_nv]
      unfold en LIMB NV at *; omega
  · have h1 : sm (un i i) (f i j) ≤ mp n un f i j := le_mxr (fun k => sm (un i k) (f k j)) hi
    have h2 : sm (un i i) (f i j) = f i j := by
      unfold un sm NV
      rw [if_pos rfl, if_neg (by omega)]
      split
      · omega
      · omega
    omega
theorem mp_un' {B : Int} (hB : B ≤ LIMB) {n m : Nat} {f : Nat → Nat → Int} (hf : bd B n m f) (i j : Nat) (hi : i < n) (hj : j < m) : mp m f un i j = f i j := by
  have h0 := hf i j hi hj
  apply Int.le_antisymm
  · refine (mxr_le _ _ _).2 ⟨by unfold en LIMB NV at *; omega, fun k hk => ?_⟩
    show sm (f i k) (un k j) ≤ _
    unfold un
    split
    · rename_i e; subst e
      unfold en LIMB NV at *
      unfold sm NV
      split
      · omega
      · split <;> omega
    · rw [sm_nv']
      unfold en LIMB NV at *; omega
  · have h1 : sm (f i j) (un j j) ≤ mp m f un i j := le_mxr (fun k => sm (f i k) (un k j)) hj
    have h2 : sm (f i j) (un j j) = f i j := by
      unfold un sm NV
      rw [if_pos rfl]
      split
      · omega
      · rw [if_neg (by omega)]; omega
    omega
/-- Powers add up. -/
theorem pw_add {B : Int} {n : Nat} {f : Nat → Nat → Int} (hB0 : 0 ≤ B) (hB : B ≤ 1000000000000) (hf : bd B n n f) (j : Nat) : ∀ k, j + k ≤ 40 → ∀ a b, a < n → b < n → mp n (pw n f j) (pw n f k) a b = pw n f (j + k) a b
  | 0, hk, a, b, ha, hb => by
    have h1 := bd_pw hf j
    have h2 : (j : Int) * B ≤ 40 * B := Int.mul_le_mul_of_nonneg_right (by omega) hB0
    exact mp_un' (B := 40 * B) (by unfold LIMB; omega) (bd_mono h1 h2) a b ha hb
  | k + 1, hk, a, b, ha, hb => by
    have h1 := bd_pw hf j
    have h2 := bd_pw hf k
    have hj2 : (j : Int) * B ≤ 40 * B := Int.mul_le_mul_of_nonneg_right (by omega) hB0
    have hk2 : (k : Int) * B ≤ 40 * B := Int.mul_le_mul_of_nonneg_right (by omega) hB0
    show mp n (pw n f j) (mp n (pw n f k) f) a b = mp n (pw n f (j + k)) f a b
    rw [← mp_assoc (A := 40 * B) (by omega) (by unfold LIMB; omega) (bd_mono h1 hj2) (bd_mono h2 hk2) (bd_mono hf (by omega)) a b ha hb]
    exact mp_congr (fun c hc => pw_add hB0 hB hf j k (by omega) a c ha hc) (fun _ _ => rfl)

/-- The row of a function's first values. -/
def tab {α : Type} (n : Nat) (f : Nat → α) : List α := (List.range n).map f
theorem length_tab {α : Type} (n : Nat) (f : Nat → α) : (tab n f).length = n := by simp [tab]
theorem getD_tab {α : Type} (n : Nat) (f : Nat → α) (z : α) (i : Nat) (h : i < n) : (tab n f).getD i z = f i := by
  simp [tab, List.getD_eq_getElem?_getD, h]
theorem set_tab {α : Type} (n : Nat) (f : Nat → α) (i : Nat) (v : α) : (tab n f).set i v = tab n (fun j => if j = i then v else f j) := by
  apply List.ext_getElem
  · simp [tab]
  · intro j h1 h2
    simp [tab, List.getElem_set, eq_comm]
theorem replicate_tab {α : Type} (n : Nat) (v : α) : List.replicate n v = tab n (fun _ => v) := by
  apply List.ext_getElem
  · simp [tab]
  · intro j h1 h2
    simp [tab]
theorem tab_congr {α : Type} {n : Nat} {f g : Nat → α} (h : ∀ i, i < n → f i = g i) : tab n f = tab n g := by
  apply List.ext_getElem
  · simp [tab]
  · intro j h1 h2
    simp [tab] at h1 ⊢
    exact h j h1
theorem tab_succ {α : Type} (n : Nat) (f : Nat → α) : tab (n + 1) f = tab n f ++ [f n] := by simp [tab, List.range_succ]
theorem eq_tab {α : Type} (l : List α) (z : α) : l = tab l.length (fun i => l.getD i z) := by
  apply List.ext_getElem
  · simp [tab]
  · intro j h1 h2
    simp [tab, List.getD_eq_getElem?_getD, h1]

/-- A list of rows, by its entries. -/
def mat (n m : Nat) (f : Nat → Nat → Int) : List (List Int) := tab n (fun i => tab m (f i))
theorem mat_congr {n m : Nat} {f g : Nat → Nat → Int} (h : ∀ i j, i < n → j < m → f i j = g i j) : mat n m f = mat n m g :=
  tab_congr (fun i hi => tab_congr (fun j hj => h i j hi hj))
theorem length_mat (n m : Nat) (f : Nat → Nat → Int) : (mat n m f).length = n := length_tab _ _
theorem set_mat (n m : Nat) (f : Nat → Nat → Int) (i j : Nat) (v : Int) : (mat n m f).set i ((tab m (f i)).set j v) = mat n m (fun a b => if a = i ∧ b = j then v else f a b) := by
  unfold mat
  rw [set_tab, set_tab]
  refine tab_congr (fun a _ => ?_)
  by_cases h : a = i
  · subst h
    rw [if_pos rfl]
    refine tab_congr (fun b _ => ?_)
    show (if b = j then v else f a b) = if a = a ∧ b = j then v else f a b
    by_cases h2 : b = j
    · rw [if_pos h2, if_pos ⟨rfl, h2⟩]
    · rw [if_neg h2, if_neg (fun h => h2 h.2)]
  · rw [if_neg h]
    exact tab_congr (fun b _ => (if_neg (fun h2 => h h2.1)).symm)
theorem eq_mat (l : List (List Int)) (n m : Nat) (hn : l.length = n) (hm : ∀ r ∈ l, r.length = m) : l = mat n m (fun i j => (l.getD i []).getD j 0) := by
  subst hn
  apply List.ext_getElem
  · simp [mat, tab]
  · intro i h1 h2
    have hr := hm l[i] (List.getElem_mem h1)
    simp only [mat, tab, List.getElem_map, List.getElem_range]
    have e : l.getD i [] = l[i] := by simp [List.getD_eq_getElem?_getD, h1]
    rw [e]
    have := eq_tab l[i] (0 : Int)
    rw [hr] at this
    exact this
end Go.Proofs.Ytnmhdeibjglhcaa.MpMath
