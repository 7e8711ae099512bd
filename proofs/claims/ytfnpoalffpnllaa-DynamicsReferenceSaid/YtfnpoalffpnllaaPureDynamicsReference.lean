/- All functions answer as the reference does; for arbitrary cells, starts and stocks. -/
import Derived.Test.YtfnpoalffpnllaaXDynamicsReferencex7
import Derived.Test.YtfnpoalffpnllaaDynMath
import Derived.OpenShut
set_option linter.unusedVariables false
set_option linter.unusedSimpArgs false
set_option linter.unusedSectionVars false
namespace Go.Proofs.Ytfnpoalffpnllaa.Pure
open Go.RowKit Go.Proofs.Ytfnpoalffpnllaa.XDynamicsReference Go.Proofs.YtfnpoalffpnllaaW.PrintWords Go.Proofs.YtfnpoalffpnllaaW.PrintLast Go.Proofs.YtfnpoalffpnllaaW.PrintMore Go.Proofs.Ytfnpoalffpnllaa.DynMath

/-- Not by sight: the kernel is not to look into what is bound. -/
theorem obind {α β : Type} (a : α) (f : α → Option β) : (some a).bind f = f a := by cases h : f a <;> simp [h]
theorem wr {x : Int} (h1 : -9223372036854775808 ≤ x) (h2 : x ≤ 9223372036854775807) : wrap64 x = x := by unfold wrap64; omega
theorem Ev_succ {α : Type} {g : Nat → Option α} {r : α} (h : Ev (fun k => g (k + 1)) r) : Ev g r := Ev.step (fun _ => rfl) h
theorem mn_eq (a b : Int) : mn a b = min a b := by unfold mn; omega
theorem mx_eq (a b : Int) : mx a b = max a b := by unfold mx; omega
theorem rd_tab (n : Nat) (f : Nat → Int) (i : Int) (h0 : 0 ≤ i) (h : i < n) : rd (tab n f) i = f i.toNat := by
  unfold rd; exact getD_tab n f 0 i.toNat (by omega)
theorem uwrap (n : Int) : IntKind.u64.wrap n = n % 18446744073709551616 := by
  unfold IntKind.wrap
  simp only [IntKind.signed, IntKind.bits, Bool.false_and, Bool.false_eq_true, if_false]
  rfl


/-- A valid cell. -/
def okc (c : S34) : Prop := 1000 ≤ c.f0 ∧ c.f0 ≤ 100000 ∧ -40 ≤ c.f1 ∧ c.f1 ≤ 40

/-- The arguments that are accepted. -/
structure Val (t : List S34) (s len sp ac br : Int) : Prop where
  ok : ∀ c ∈ t, okc c
  s0 : 0 ≤ s
  s1 : s ≤ (t.length : Int) - 2
  n : t.length ≤ 4000
  l0 : 1 ≤ len
  l1 : len ≤ 40
  p0 : 1000 ≤ sp
  p1 : sp ≤ 100000
  a0 : 100 ≤ ac
  a1 : ac ≤ 2000
  b0 : 100 ≤ br
  b1 : br ≤ 2000
theorem mem_getD (t : List S34) (i : Nat) (h : i < t.length) : t.getD i z34 ∈ t := by
  rw [List.getD_eq_getElem?_getD, List.getElem?_eq_getElem h]
  exact List.getElem_mem h
theorem within_t (a b c : Int) (h1 : b ≤ a) (h2 : a ≤ c) : dynamics_within.f a b c = some true := by
  unfold dynamics_within.f; rw [if_pos h1, decide_eq_true h2]
theorem Check_f {t : List S34} {s len sp ac br : Int} (v : Val t s len sp ac br) (nm : ByteArray) : dynamics_Check.f nm len sp ac br = some true := by
  unfold dynamics_Check.f
  rw [within_t _ _ _ v.l0 v.l1, within_t _ _ _ v.p0 v.p1, within_t _ _ _ v.a0 v.a1, within_t _ _ _ v.b0 v.b1]
  rfl
theorem check_loop {t : List S34} {s len sp ac br : Int} (v : Val t s len sp ac br) (d : Nat) : ∀ i : Nat, i + d = t.length → Ev (fun k => dynamics_check.l0 k t s t (t.length : Int) (i : Int)) 0 := by
  have hn := v.n
  have h0 := v.s0
  have h1 := v.s1
  induction d with
  | zero =>
    intro i hi
    refine Ev_succ ?_
    simp only [dynamics_check.l0]
    simp (disch := omega) only [if_neg, wr, within_t, obind, if_true]
    exact Ev.now _
  | succ d ih =>
    intro i hi
    refine Ev_succ ?_
    simp only [dynamics_check.l0]
    have hc := v.ok _ (mem_getD t i (by omega))
    unfold okc at hc
    simp (disch := omega) only [if_pos, wr, rd_T34, Int.toNat_natCast, within_t, obind, if_true]
    rw [show (i : Int) + 1 = ((i + 1 : Nat) : Int) by omega]
    exact ih (i + 1) (by omega)
theorem check_f {t : List S34} {s len sp ac br : Int} (v : Val t s len sp ac br) (nm : ByteArray) : Ev (fun k => dynamics_check.f k t s nm len sp ac br) 0 := by
  unfold dynamics_check.f
  have hn := v.n
  simp only [Check_f v, obind, if_true]
  simp (disch := omega) only [if_neg]
  exact check_loop v t.length 0 (by omega)
/-- The least limit of c cells from a on, and the speed. -/
def limS (t : List S34) (sp : Int) (a : Nat) : Nat → Int
  | 0 => sp
  | m + 1 => min (limS t sp a m) (t.getD (a + m) z34).f0
theorem le_limS (t : List S34) (sp m : Int) (a : Nat) : ∀ c, m ≤ limS t sp a c ↔ m ≤ sp ∧ ∀ j, a ≤ j → j < a + c → m ≤ (t.getD j z34).f0
  | 0 => by simp only [limS]; exact ⟨fun h => ⟨h, fun j h1 h2 => by omega⟩, fun h => h.1⟩
  | c + 1 => by
    have ih := le_limS t sp m a c
    simp only [limS]
    constructor
    · intro h
      have h1 := ih.1 (by omega)
      refine ⟨h1.1, fun j ha hb => ?_⟩
      rcases Nat.lt_or_ge j (a + c) with h2 | h2
      · exact h1.2 j ha h2
      · rw [show j = a + c by omega]; omega
    · intro h
      have h1 := ih.2 ⟨h.1, fun j ha hb => h.2 j ha (by omega)⟩
      have h2 := h.2 (a + c) (by omega) (by omega)
      omega
/-- The limit of cell k. -/
def lim (t : List S34) (sp : Int) (len k : Nat) : Int := limS t sp (k - len) (k - (k - len) + 1)
theorem le_lim (t : List S34) (sp m : Int) (len k : Nat) : m ≤ lim t sp len k ↔ m ≤ sp ∧ ∀ j, k - len ≤ j → j ≤ k → m ≤ (t.getD j z34).f0 := by
  unfold lim
  rw [le_limS]
  constructor
  · exact fun h => ⟨h.1, fun j a b => h.2 j a (by omega)⟩
  · exact fun h => ⟨h.1, fun j a b => h.2 j a (by omega)⟩
theorem lim_le (t : List S34) (sp : Int) (len k j : Nat) (h1 : k - len ≤ j) (h2 : j ≤ k) : lim t sp len k ≤ (t.getD j z34).f0 := ((le_lim t sp _ len k).1 (Int.le_refl _)).2 j h1 h2
theorem lim_le_sp (t : List S34) (sp : Int) (len k : Nat) : lim t sp len k ≤ sp := ((le_lim t sp _ len k).1 (Int.le_refl _)).1
theorem lim_lo {t : List S34} {s len sp ac br : Int} (v : Val t s len sp ac br) (len' k : Nat) (h : k < t.length) : 1000 ≤ lim t sp len' k :=
  (le_lim t sp _ len' k).2 ⟨v.p0, fun j _ hj => (v.ok _ (mem_getD t j (by omega))).1⟩
theorem limit_loop (t : List S34) (sp : Int) (a k : Nat) (hk : k < t.length) (hn : t.length ≤ 4000) (d : Nat) : ∀ c : Nat, a + c + d = k + 1 → Ev (fun n => dynamics_limit.l0 n t (k : Int) (limS t sp a c) ((a + c : Nat) : Int)) (limS t sp a (k + 1 - a)) := by
  induction d with
  | zero =>
    intro c hc
    refine Ev_succ ?_
    simp only [dynamics_limit.l0]
    simp (disch := omega) only [if_neg]
    rw [show k + 1 - a = c by omega]
    exact Ev.now _
  | succ d ih =>
    intro c hc
    refine Ev_succ ?_
    simp only [dynamics_limit.l0]
    simp (disch := omega) only [if_pos, wr, rd_T34, Int.toNat_natCast, mn_eq]
    rw [show ((a + c : Nat) : Int) + 1 = ((a + (c + 1) : Nat) : Int) by omega]
    exact ih (c + 1) (by omega)
theorem limit_f {t : List S34} {s len sp ac br : Int} (v : Val t s len sp ac br) (nm : ByteArray) (k : Nat) (h : k < t.length) : Ev (fun n => dynamics_limit.f n t (k : Int) nm len sp ac br) (lim t sp len.toNat k) := by
  unfold dynamics_limit.f lim
  have h0 := v.l0
  have h1 := v.l1
  have h2 := v.n
  simp (disch := omega) only [wr, mx_eq]
  have e : max 0 ((k : Int) - len) = ((k - len.toNat + 0 : Nat) : Int) := by omega
  rw [e, show k - (k - len.toNat) + 1 = k + 1 - (k - len.toNat) by omega]
  exact limit_loop t sp (k - len.toNat) k h v.n (k + 1 - (k - len.toNat)) 0 (by omega)
/-- How much the squared speed may grow, and fall. -/
def gainS (c : S34) (ac : Int) : Int := 20000 * (if c.f1 > 0 then max 50 (ac - 10 * c.f1) else ac)
def lossS (c : S34) (br : Int) : Int := 20000 * (if c.f1 < 0 then max 50 (br + 10 * c.f1) else br)
theorem gainS_range (c : S34) (ac : Int) (hc : okc c) (h0 : 100 ≤ ac) (h1 : ac ≤ 2000) : 1000000 ≤ gainS c ac ∧ gainS c ac ≤ 20000 * ac := by
  unfold gainS; unfold okc at hc; split <;> omega
theorem lossS_range (c : S34) (br : Int) (hc : okc c) (h0 : 100 ≤ br) (h1 : br ≤ 2000) : 1000000 ≤ lossS c br ∧ lossS c br ≤ 20000 * br := by
  unfold lossS; unfold okc at hc; split <;> omega
theorem gain_f (c : S34) (nm : ByteArray) (len sp ac br : Int) (hc : okc c) (h0 : 100 ≤ ac) (h1 : ac ≤ 2000) : dynamics_gain.f c.f0 c.f1 nm len sp ac br = some (gainS c ac) := by
  unfold okc at hc
  unfold dynamics_gain.f gainS
  split <;> simp (disch := omega) only [wr, mx_eq]
theorem loss_f (c : S34) (nm : ByteArray) (len sp ac br : Int) (hc : okc c) (h0 : 100 ≤ br) (h1 : br ≤ 2000) : dynamics_loss.f c.f0 c.f1 nm len sp ac br = some (lossS c br) := by
  unfold okc at hc
  unfold dynamics_loss.f lossS
  split <;> simp (disch := omega) only [wr, mx_eq]
theorem sqrt_loop (n : Int) (hn1 : 1 ≤ n) (hn2 : n ≤ 9223372036854775807) : ∀ (d : Nat) (lo hi : Int), 1 ≤ lo → lo ≤ hi → hi ≤ 3037000499 → lo * lo ≤ n → n < (hi + 1) * (hi + 1) → hi - lo ≤ d →
    Ev (fun k => arith_Sqrt.l0 k n lo hi) (isq n) := by
  intro d
  induction d with
  | zero =>
    intro lo hi h1 h2 h3 h4 h5 h6
    have : lo = hi := by omega
    subst this
    refine Ev_succ ?_
    simp only [arith_Sqrt.l0]
    simp (disch := omega) only [if_neg]
    rw [isq_eq (by omega) h4 h5]
    exact Ev.now lo
  | succ d ih =>
    intro lo hi h1 h2 h3 h4 h5 h6
    refine Ev_succ ?_
    simp only [arith_Sqrt.l0]
    by_cases hlt : lo < hi
    · have hm : wrap64 (lo + wrap64 (Int.tdiv (wrap64 (wrap64 (hi - lo) + 1)) 2)) = lo + (hi - lo + 1) / 2 := by
        have : wrap64 (wrap64 (hi - lo) + 1) = hi - lo + 1 := by simp (disch := omega) only [wr]
        rw [this, Int.tdiv_eq_ediv_of_nonneg (by omega)]
        simp (disch := omega) only [wr]
      simp only [if_pos hlt, hm]
      generalize hmid : lo + (hi - lo + 1) / 2 = mid
      have hq0 : 0 ≤ n / mid := Int.ediv_nonneg (by omega) (by omega)
      have hq1 : n / mid ≤ n := Int.ediv_le_self _ (by omega)
      have hd : wrap64 (Int.tdiv n mid) = n / mid := by
        rw [Int.tdiv_eq_ediv_of_nonneg (by omega), wr (by omega) (by omega)]
      have hw : wrap64 (mid - 1) = mid - 1 := wr (by omega) (by omega)
      have hiff : mid ≤ n / mid ↔ mid * mid ≤ n := Int.le_ediv_iff_mul_le (by omega)
      simp only [if_neg (show ¬ mid = 0 by omega), hd, hw]
      by_cases hle : mid ≤ n / mid
      · simp only [if_pos hle]
        exact ih mid hi (by omega) (by omega) h3 (hiff.1 hle) h5 (by omega)
      · simp only [if_neg hle]
        have hmm : n < mid * mid := by
          have := mt hiff.2 hle
          omega
        exact ih lo (mid - 1) h1 (by omega) (by omega) h4 (by rw [Int.sub_add_cancel]; exact hmm) (by omega)
    · simp only [if_neg hlt]
      have : lo = hi := by omega
      subst this
      rw [isq_eq (by omega) h4 h5]
      exact Ev.now lo
theorem sqrt_f (n : Int) (h0 : 0 ≤ n) (h : n ≤ 9223372036854775807) : Ev (fun k => arith_Sqrt.f k n) (isq n) := by
  unfold arith_Sqrt.f
  by_cases h1 : n < 1
  · simp only [if_pos h1]
    rw [show n = 0 by omega, isq_zero]
    exact Ev.now 0
  · simp only [if_neg h1]
    exact sqrt_loop n (by omega) h 3037000499 1 3037000499 (by omega) (by omega) (by omega) (by omega) (by omega) (by omega)
/-- The bound, the growth and the fall of the squared speeds, by the boundary's number. -/
def cS (t : List S34) (s : Nat) (sp : Int) (len i : Nat) : Int := min (lim t sp len (s + i - 1)) (lim t sp len (s + i)) * min (lim t sp len (s + i - 1)) (lim t sp len (s + i))
def gS (t : List S34) (s : Nat) (ac : Int) (i : Nat) : Int := gainS (t.getD (s + i) z34) ac
def lS (t : List S34) (s : Nat) (br : Int) (i : Nat) : Int := lossS (t.getD (s + i) z34) br
/-- The speed at a boundary. -/
def spd (t : List S34) (s len sp ac br : Int) (i : Nat) : Int := isq (sq (cS t s.toNat sp len.toNat) (gS t s.toNat ac) (lS t s.toNat br) (t.length - s.toNat) i)
section
variable {t : List S34} {s len sp ac br : Int} (v : Val t s len sp ac br)
include v
theorem most_range (len' i : Nat) (h1 : 1 ≤ i) (h : i < t.length - s.toNat) : 1000 ≤ min (lim t sp len' (s.toNat + i - 1)) (lim t sp len' (s.toNat + i)) ∧ min (lim t sp len' (s.toNat + i - 1)) (lim t sp len' (s.toNat + i)) ≤ 100000 := by
  have := lim_lo v len' (s.toNat + i - 1) (by omega)
  have := lim_lo v len' (s.toNat + i) (by omega)
  have := lim_le_sp t sp len' (s.toNat + i)
  have := v.p1
  omega
theorem cS_range (len' i : Nat) (h1 : 1 ≤ i) (h : i < t.length - s.toNat) : 1000000 ≤ cS t s.toNat sp len' i ∧ cS t s.toNat sp len' i ≤ 10000000000 := by
  have hm := most_range v len' i h1 h
  unfold cS
  generalize min (lim t sp len' (s.toNat + i - 1)) (lim t sp len' (s.toNat + i)) = m at hm
  have a := sq_le (a := 1000) (b := m) (by omega) hm.1
  have b := sq_le (a := m) (b := 100000) (by omega) hm.2
  omega
theorem cell_ok (i : Nat) (h : i < t.length - s.toNat) : okc (t.getD (s.toNat + i) z34) := v.ok _ (mem_getD t _ (by omega))
theorem gS_range (i : Nat) (h : i < t.length - s.toNat) : 1000000 ≤ gS t s.toNat ac i ∧ gS t s.toNat ac i ≤ 20000 * ac := gainS_range _ _ (cell_ok v i h) v.a0 v.a1
theorem lS_range (i : Nat) (h : i < t.length - s.toNat) : 1000000 ≤ lS t s.toNat br i ∧ lS t s.toNat br i ≤ 20000 * br := lossS_range _ _ (cell_ok v i h) v.b0 v.b1
theorem fwd_ok (i : Nat) (h : i < t.length - s.toNat) : 0 ≤ fwd (cS t s.toNat sp len.toNat) (gS t s.toNat ac) i ∧ fwd (cS t s.toNat sp len.toNat) (gS t s.toNat ac) i ≤ 10000000000 := by
  refine ⟨fwd_nonneg (n := t.length - s.toNat) (fun j a b => by have := cS_range v len.toNat j a b; omega) (fun j a => by have := gS_range v j a; omega) i h, ?_⟩
  rcases Nat.eq_zero_or_pos i with h0 | h0
  · subst h0; simp [fwd]
  · have := fwd_le_c (c := cS t s.toNat sp len.toNat) (g := gS t s.toNat ac) h0
    have := cS_range v len.toNat i h0 h
    omega
theorem sq_ok (i : Nat) (h : i ≤ t.length - s.toNat) : 0 ≤ sq (cS t s.toNat sp len.toNat) (gS t s.toNat ac) (lS t s.toNat br) (t.length - s.toNat) i ∧ sq (cS t s.toNat sp len.toNat) (gS t s.toNat ac) (lS t s.toNat br) (t.length - s.toNat) i ≤ 10000000000 := by
  refine ⟨sq_nonneg (fun j a b => by have := cS_range v len.toNat j a b; omega) (fun j a => by have := gS_range v j a; omega) (fun j a => by have := lS_range v j a; omega) i h, ?_⟩
  rcases Nat.lt_or_ge i (t.length - s.toNat) with h0 | h0
  · have := sq_le_fwd (c := cS t s.toNat sp len.toNat) (g := gS t s.toNat ac) (l := lS t s.toNat br) h0
    have := fwd_ok v i h0
    omega
  · rw [show i = t.length - s.toNat by omega, sq_top]; omega
theorem rd_drop (i : Int) (h0 : 0 ≤ i) : rd_T34 (t.drop s.toNat) i = t.getD (s.toNat + i.toNat) z34 := by
  unfold rd_T34
  rw [List.getD_eq_getElem?_getD, List.getD_eq_getElem?_getD, List.getElem?_drop]
theorem speeds_l2 (n : Nat) (hn : n = t.length - s.toNat) (f : Nat → Int) (hf : ∀ i, i ≤ n → 0 ≤ f i ∧ f i ≤ 10000000000) (d : Nat) : ∀ i : Nat, i + d = n + 1 →
    Ev (fun k => dynamics_Speeds.l2 k (tab (n + 1) (fun j => if j < i then isq (f j) else f j)) ((n + 1 : Nat) : Int) (i : Int)) (tab (n + 1) (fun j => isq (f j)), 0) := by
  have hv := v.n
  induction d with
  | zero =>
    intro i hi
    refine Ev_succ ?_
    simp only [dynamics_Speeds.l2]
    simp (disch := omega) only [if_neg]
    rw [tab_congr (g := fun j => isq (f j)) (fun j hj => if_pos (by omega))]
    exact Ev.now _
  | succ d ih =>
    intro i hi
    refine Ev_succ ?_
    simp only [dynamics_Speeds.l2, length_tab]
    simp (disch := omega) only [if_pos, wr, rd_tab, Int.toNat_natCast]
    rw [if_neg (show ¬ i < i by omega)]
    have := hf i (by omega)
    refine Ev.bind (sqrt_f (f i) (by omega) (by omega)) ?_
    rw [set_tab, show (i : Int) + 1 = ((i + 1 : Nat) : Int) by omega]
    rw [tab_congr (g := fun j => if j < i + 1 then isq (f j) else f j) (fun j hj => ?_)]
    · exact ih (i + 1) (by omega)
    · by_cases h1 : j = i
      · subst h1; rw [if_pos rfl, if_pos (by omega)]
      · rw [if_neg h1]
        by_cases h2 : j < i
        · rw [if_pos h2, if_pos (by omega)]
        · rw [if_neg h2, if_neg (by omega)]
theorem speeds_l1 (nm : ByteArray) (n : Nat) (hn : n = t.length - s.toNat) (c g : Nat → Int) (hf : ∀ i, i < n → 0 ≤ fwd c g i ∧ fwd c g i ≤ 10000000000) (r : List Int × Int)
    (hs : ∀ i, i ≤ n → 0 ≤ sq c g (lS t s.toNat br) n i ∧ sq c g (lS t s.toNat br) n i ≤ 10000000000) (hz : sq c g (lS t s.toNat br) n 0 = 0)
    (hr : Ev (fun k => dynamics_Speeds.l2 k (tab (n + 1) (sq c g (lS t s.toNat br) n)) ((n + 1 : Nat) : Int) 0) r) : ∀ i : Nat, i < n →
    Ev (fun k => dynamics_Speeds.l1 k (t.drop s.toNat) (tab (n + 1) (fun j => if j ≤ i then fwd c g j else sq c g (lS t s.toNat br) n j)) (i : Int) nm len sp ac br) r := by
  have hv := v.n
  intro i
  induction i with
  | zero =>
    intro hi
    refine Ev_succ ?_
    simp only [dynamics_Speeds.l1, length_tab]
    rw [tab_congr (g := sq c g (lS t s.toNat br) n) (fun j hj => ?_)]
    · exact hr
    · by_cases h : j = 0
      · subst h; rw [if_pos (by omega), hz]; rfl
      · rw [if_neg (by omega)]
  | succ i ih =>
    intro hi
    refine Ev_succ ?_
    simp only [dynamics_Speeds.l1, length_tab, List.length_drop]
    have hok := cell_ok v (i + 1) (by omega)
    have hl := lS_range v (i + 1) (by omega)
    have hb1 := v.b1
    have h1 := hf (i + 1) hi
    have h2 := hs (i + 2) (by omega)
    simp (disch := omega) only [if_pos, wr, rd_tab, rd_drop v, Int.toNat_natCast]
    rw [show (((i + 1 : Nat) : Int) + 1).toNat = i + 2 by omega]
    rw [loss_f _ nm len sp ac br hok v.b0 v.b1]
    simp only [obind]
    rw [if_neg (show ¬ i + 2 ≤ i + 1 by omega)]
    have e : lossS (t.getD (s.toNat + (i + 1)) z34) br = lS t s.toNat br (i + 1) := rfl
    rw [e, mn_eq, wr (by omega) (by omega), set_tab, show ((i + 1 : Nat) : Int) - 1 = (i : Int) by omega]
    rw [tab_congr (g := fun j => if j ≤ i then fwd c g j else sq c g (lS t s.toNat br) n j) (fun j hj => ?_)]
    · exact ih (by omega)
    · by_cases h3 : j = i + 1
      · subst h3; rw [if_pos rfl, if_neg (by omega), sq_step hi]
      · rw [if_neg h3]
        by_cases h4 : j ≤ i
        · rw [if_pos h4, if_pos (by omega)]
        · rw [if_neg h4, if_neg (by omega)]
theorem speeds_l0 (nm : ByteArray) (n : Nat) (hn : n = t.length - s.toNat) (r : List Int × Int)
    (hr : Ev (fun k => dynamics_Speeds.l1 k (t.drop s.toNat) (tab (n + 1) (fun j => if j ≤ n - 1 then fwd (cS t s.toNat sp len.toNat) (gS t s.toNat ac) j else 0)) ((n - 1 : Nat) : Int) nm len sp ac br) r) (d : Nat) : ∀ i : Nat, 1 ≤ i → i + d = n →
    Ev (fun k => dynamics_Speeds.l0 k t s (t.drop s.toNat) (tab (n + 1) (fun j => if j < i then fwd (cS t s.toNat sp len.toNat) (gS t s.toNat ac) j else 0)) (lim t sp len.toNat (s.toNat + i - 1)) (i : Int) nm len sp ac br) r := by
  have hv := v.n
  have h0 := v.s0
  have h1 := v.s1
  induction d with
  | zero =>
    intro i hi1 hi
    refine Ev_succ ?_
    simp only [dynamics_Speeds.l0, length_tab, List.length_drop]
    simp (disch := omega) only [if_neg, wr]
    rw [tab_congr (g := fun j => if j ≤ n - 1 then fwd (cS t s.toNat sp len.toNat) (gS t s.toNat ac) j else 0) (fun j hj => ?_)]
    · rw [show ((t.length - s.toNat : Nat) : Int) - 1 = ((n - 1 : Nat) : Int) by omega]
      exact hr
    · by_cases h3 : j < i
      · rw [if_pos h3, if_pos (by omega)]
      · rw [if_neg h3, if_neg (by omega)]
  | succ d ih =>
    intro i hi1 hi
    refine Ev_succ ?_
    obtain ⟨j, rfl⟩ : ∃ j, i = j + 1 := ⟨i - 1, by omega⟩
    have hok := cell_ok v j (by omega)
    have hg := gS_range v j (by omega)
    have ha1 := v.a1
    have h2 := fwd_ok v j (by omega)
    have hc := cS_range v len.toNat (j + 1) (by omega) (by omega)
    simp only [dynamics_Speeds.l0, length_tab, List.length_drop]
    simp (disch := omega) only [if_pos, wr, rd_tab, rd_drop v, Int.toNat_natCast]
    rw [show s + ((j + 1 : Nat) : Int) = ((s.toNat + (j + 1) : Nat) : Int) by omega]
    refine Ev.bind (limit_f v nm (s.toNat + (j + 1)) (by omega)) ?_
    rw [show (((j + 1 : Nat) : Int) - 1).toNat = j by omega]
    rw [gain_f _ nm len sp ac br hok v.a0 v.a1]
    simp only [obind]
    have e : gainS (t.getD (s.toNat + j) z34) ac = gS t s.toNat ac j := rfl
    have e2 : min (lim t sp len.toNat (s.toNat + (j + 1) - 1)) (lim t sp len.toNat (s.toNat + (j + 1))) * min (lim t sp len.toNat (s.toNat + (j + 1) - 1)) (lim t sp len.toNat (s.toNat + (j + 1))) = cS t s.toNat sp len.toNat (j + 1) := rfl
    rw [e, mn_eq, mn_eq, e2, wr (by omega) (by omega), wr (by omega) (by omega), set_tab, show ((j + 1 : Nat) : Int) + 1 = ((j + 1 + 1 : Nat) : Int) by omega]
    rw [tab_congr (g := fun i => if i < j + 1 + 1 then fwd (cS t s.toNat sp len.toNat) (gS t s.toNat ac) i else 0) (fun i hi => ?_)]
    · exact ih (j + 1 + 1) (by omega) (by omega)
    · by_cases h3 : i = j + 1
      · subst h3; rw [if_pos rfl, if_pos (by omega)]; rfl
      · rw [if_neg h3]
        by_cases h4 : i < j + 1
        · rw [if_pos h4, if_pos (by omega)]
        · rw [if_neg h4, if_neg (by omega)]
theorem speeds_f (nm : ByteArray) : Ev (fun k => dynamics_Speeds.f k t s nm len sp ac br) (tab (t.length - s.toNat + 1) (spd t s len sp ac br), 0) := by
  have hv := v.n
  have h0 := v.s0
  have h1 := v.s1
  unfold dynamics_Speeds.f
  refine Ev.bind (check_f v nm) ?_
  have hlen : ((t.drop s.toNat).length : Int) = ((t.length - s.toNat : Nat) : Int) := by rw [List.length_drop]
  have hw : wrap64 (((t.drop s.toNat).length : Int) + 1) = ((t.length - s.toNat : Nat) : Int) + 1 := by rw [hlen]; exact wr (by omega) (by omega)
  have hw1 : 0 ≤ wrap64 (((t.drop s.toNat).length : Int) + 1) := by rw [hw]; omega
  have hw2 : (wrap64 (((t.drop s.toNat).length : Int) + 1)).toNat ≤ 35184372088832 := by rw [hw]; omega
  simp only [if_true, obind, if_pos h0, if_pos (show s ≤ (t.length : Int) by omega), if_pos hw1, if_pos hw2]
  rw [hw]
  obtain ⟨n, hn⟩ : ∃ n, t.length - s.toNat = n := ⟨_, rfl⟩
  rw [show ((((t.length - s.toNat : Nat) : Int) + 1).toNat) = n + 1 by omega, replicate_tab, hn]
  have hL := limit_f v nm s.toNat (by omega)
  rw [show ((s.toNat : Nat) : Int) = s by omega] at hL
  refine Ev.bind hL ?_
  have hc0 : ∀ i, 1 ≤ i → i < n → 0 ≤ cS t s.toNat sp len.toNat i := fun j a b => by have := cS_range v len.toNat j a (by omega); omega
  have hg0 : ∀ i, i < n → 0 ≤ gS t s.toNat ac i := fun j a => by have := gS_range v j (by omega); omega
  have hl0 : ∀ i, i < n → 0 ≤ lS t s.toNat br i := fun j a => by have := lS_range v j (by omega); omega
  have E2 := speeds_l2 v n hn.symm (fun i => sq (cS t s.toNat sp len.toNat) (gS t s.toNat ac) (lS t s.toNat br) n i) (fun i hi => by rw [← hn]; exact sq_ok v i (by omega)) (n + 1) 0 (by omega)
  rw [tab_congr (g := sq (cS t s.toNat sp len.toNat) (gS t s.toNat ac) (lS t s.toNat br) n) (fun j _ => if_neg (by omega)), show ((0 : Nat) : Int) = 0 from rfl] at E2
  have E1 := speeds_l1 v nm n hn.symm (cS t s.toNat sp len.toNat) (gS t s.toNat ac) (fun i hi => fwd_ok v i (by omega)) _ (fun i hi => by rw [← hn]; exact sq_ok v i (by omega)) (sq_zero hc0 hg0 hl0) E2 (n - 1) (by omega)
  rw [tab_congr (g := fun j => if j ≤ n - 1 then fwd (cS t s.toNat sp len.toNat) (gS t s.toNat ac) j else 0) (fun j hj => by
    by_cases h : j ≤ n - 1
    · rw [if_pos h, if_pos h]
    · rw [if_neg h, if_neg h, show j = n by omega, sq_top])] at E1
  have E0 := speeds_l0 v nm n hn.symm _ E1 (n - 1) 1 (by omega) (by omega)
  rw [tab_congr (g := fun _ => 0) (fun j hj => by
    by_cases h : j < 1
    · rw [if_pos h, show j = 0 by omega]; rfl
    · rw [if_neg h])] at E0
  rw [show s.toNat + 1 - 1 = s.toNat by omega, show ((1 : Nat) : Int) = 1 from rfl] at E0
  have e : (fun j => isq ((fun i => sq (cS t s.toNat sp len.toNat) (gS t s.toNat ac) (lS t s.toNat br) n i) j)) = spd t s len sp ac br := by
    funext j; unfold spd; rw [hn]
  rw [e] at E0
  exact E0
end

section
variable {t : List S34} {s len sp ac br : Int} (v : Val t s len sp ac br)
include v
theorem spd_sq (i : Nat) (h : i ≤ t.length - s.toNat) : spd t s len sp ac br i * spd t s len sp ac br i ≤ sq (cS t s.toNat sp len.toNat) (gS t s.toNat ac) (lS t s.toNat br) (t.length - s.toNat) i ∧ sq (cS t s.toNat sp len.toNat) (gS t s.toNat ac) (lS t s.toNat br) (t.length - s.toNat) i < (spd t s len sp ac br i + 1) * (spd t s len sp ac br i + 1) := by
  have := sq_ok v i h
  exact isq_spec _ this.1
theorem spd_range (i : Nat) (h : i ≤ t.length - s.toNat) : 0 ≤ spd t s len sp ac br i ∧ spd t s len sp ac br i ≤ 100000 := by
  have := sq_ok v i h
  exact ⟨isq_nonneg _, isq_le this.1 (by omega) (by omega)⟩
theorem spd_zero : spd t s len sp ac br 0 = 0 := by
  unfold spd
  rw [sq_zero (fun j a b => by have := cS_range v len.toNat j a b; omega) (fun j a => by have := gS_range v j a; omega) (fun j a => by have := lS_range v j a; omega), isq_zero]
theorem spd_top : spd t s len sp ac br (t.length - s.toNat) = 0 := by unfold spd; rw [sq_top, isq_zero]
theorem spd_most (i : Nat) (h1 : 1 ≤ i) (h : i < t.length - s.toNat) : spd t s len sp ac br i ≤ lim t sp len.toNat (s.toNat + i - 1) ∧ spd t s len sp ac br i ≤ lim t sp len.toNat (s.toNat + i) := by
  have hm := most_range v len.toNat i h1 h
  have hs := sq_ok v i (by omega)
  have hc : sq (cS t s.toNat sp len.toNat) (gS t s.toNat ac) (lS t s.toNat br) (t.length - s.toNat) i ≤ cS t s.toNat sp len.toNat i := sq_le_c h1 h
  unfold cS at hc
  have := isq_le hs.1 (by omega) hc
  unfold spd
  omega
theorem spd_pos (i : Nat) (h1 : 1 ≤ i) (h : i < t.length - s.toNat) : 1 ≤ spd t s len sp ac br i :=
  isq_pos (sq_lower (by omega) (fun j a b => by have := cS_range v len.toNat j a b; omega) (fun j a => by have := gS_range v j a; omega) (fun j a => by have := lS_range v j a; omega) h1 h)
theorem spd_le_lim (b : Nat) (h1 : 1 ≤ b) (h : b ≤ t.length - s.toNat) : spd t s len sp ac br b ≤ lim t sp len.toNat (s.toNat + b - 1) ∧ spd t s len sp ac br (b - 1) ≤ lim t sp len.toNat (s.toNat + b - 1) := by
  have hl := lim_lo v len.toNat (s.toNat + b - 1) (by have := v.s0; have := v.s1; omega)
  constructor
  · rcases Nat.lt_or_ge b (t.length - s.toNat) with h2 | h2
    · exact (spd_most v b h1 h2).1
    · rw [show b = t.length - s.toNat by omega, spd_top v, ← show b = t.length - s.toNat by omega]; omega
  · rcases Nat.eq_or_lt_of_le h1 with h2 | h2
    · subst h2
      rw [spd_zero v]; omega
    · have := (spd_most v (b - 1) (by omega) (by omega)).2
      rw [show s.toNat + (b - 1) = s.toNat + b - 1 by omega] at this
      exact this
theorem spd_up (b : Nat) (h : b < t.length - s.toNat) : spd t s len sp ac br (b + 1) * spd t s len sp ac br (b + 1) - (spd t s len sp ac br b + 1) * (spd t s len sp ac br b + 1) ≤ 20000 * ac := by
  have h1 := spd_sq v (b + 1) (by omega)
  have h2 := spd_sq v b (by omega)
  have h3 : sq (cS t s.toNat sp len.toNat) (gS t s.toNat ac) (lS t s.toNat br) (t.length - s.toNat) (b + 1) ≤ _ := sq_up (fun j a b => by have := cS_range v len.toNat j a b; omega) (fun j a => by have := gS_range v j a; omega) (fun j a => by have := lS_range v j a; omega) h
  have h4 := gS_range v b h
  omega
theorem spd_down (b : Nat) (h : b < t.length - s.toNat) : spd t s len sp ac br b * spd t s len sp ac br b - (spd t s len sp ac br (b + 1) + 1) * (spd t s len sp ac br (b + 1) + 1) ≤ 20000 * br := by
  have h1 := spd_sq v b (by omega)
  have h2 := spd_sq v (b + 1) (by omega)
  have h3 : sq (cS t s.toNat sp len.toNat) (gS t s.toNat ac) (lS t s.toNat br) (t.length - s.toNat) b ≤ _ := sq_down h
  have h4 := lS_range v b h
  omega
end

theorem ceil_f (a b : Int) (hb : 1 ≤ b) (ha : -9223372036854775808 ≤ a ∧ a ≤ 9223372036854775807) : arith_CeilDiv.f a b = some (cdiv a b, 0) := by
  have h1 := tdiv_floor a b hb
  have h2 := tmod_ceil a b hb
  have h3 := ediv_range a b hb
  have h5 := Int.emod_nonneg a (show b ≠ 0 by omega)
  unfold arith_CeilDiv.f cdiv
  rw [if_neg (by omega), if_neg (by omega)]
  split
  · rename_i h
    rw [if_neg (by omega)] at h1
    rw [if_neg (by omega)]
    have : wrap64 (wrap64 (Int.tdiv a b) + 1) = a / b + 1 := by
      rw [h1]; unfold wrap64; omega
    rw [this]
  · rename_i h
    by_cases hz : Int.tmod a b < 0
    · rw [if_pos hz] at h1
      rw [if_neg (by omega)]
      have : wrap64 (Int.tdiv a b) = a / b + 1 := by
        rw [h1]; unfold wrap64; omega
      rw [this]
    · rw [if_neg hz] at h1
      rw [if_pos (by omega)]
      have : wrap64 (Int.tdiv a b) = a / b := by
        rw [h1]; unfold wrap64; omega
      rw [this]

/-- The time at a boundary. -/
def tm (t : List S34) (s len sp ac br : Int) (i : Nat) : Int := tms (spd t s len sp ac br) i
section
variable {t : List S34} {s len sp ac br : Int} (v : Val t s len sp ac br)
include v
theorem spd_sum (i : Nat) (h : i < t.length - s.toNat) : 1 ≤ spd t s len sp ac br i + spd t s len sp ac br (i + 1) := by
  have h0 := spd_range v i (by omega)
  have h1 := spd_range v (i + 1) (by omega)
  have hs1 := v.s1
  have hs0 := v.s0
  rcases Nat.eq_zero_or_pos i with hz | hz
  · subst hz
    have := spd_pos v 1 (by omega) (by omega)
    rw [Nat.zero_add]
    omega
  · have := spd_pos v i hz h
    omega
theorem tm_range (i : Nat) (h : i ≤ t.length - s.toNat) : 0 ≤ tm t s len sp ac br i ∧ tm t s len sp ac br i ≤ (i : Int) * 20000000 := tms_range (fun i h => spd_sum v i h) i h
theorem times_loop (d : Nat) : ∀ i : Nat, 1 ≤ i → i + d = t.length - s.toNat + 1 →
    Ev (fun k => dynamics_Times.l0 k (tab (t.length - s.toNat + 1) (spd t s len sp ac br)) (tab i (tm t s len sp ac br)) (i : Int)) (tab (t.length - s.toNat + 1) (tm t s len sp ac br), 0) := by
  have hn := v.n
  induction d with
  | zero =>
    intro i h1 hi
    refine Ev_succ ?_
    simp only [dynamics_Times.l0, length_tab]
    simp (disch := omega) only [if_neg]
    rw [show i = t.length - s.toNat + 1 by omega]
    exact Ev.now _
  | succ d ih =>
    intro i h1 hi
    refine Ev_succ ?_
    simp only [dynamics_Times.l0, length_tab]
    obtain ⟨c, rfl⟩ : ∃ c, i = c + 1 := ⟨i - 1, by omega⟩
    have hs := spd_sum v c (by omega)
    have h2 := spd_range v c (by omega)
    have h3 := spd_range v (c + 1) (by omega)
    have h4 := tm_range v c (by omega)
    have h5 := cdiv_lo (a := 20000000) (by omega) hs
    have h6 := cdiv_hi (a := 20000000) (by omega) hs
    simp (disch := omega) only [if_pos, wr, rd_tab, Int.toNat_natCast]
    rw [show (((c + 1 : Nat) : Int) - 1).toNat = c by omega]
    simp (disch := omega) only [wr, ceil_f, obind]
    have e : tm t s len sp ac br c + cdiv 20000000 (spd t s len sp ac br c + spd t s len sp ac br (c + 1)) = tm t s len sp ac br (c + 1) := rfl
    rw [e, ← tab_succ, show ((c + 1 : Nat) : Int) + 1 = ((c + 1 + 1 : Nat) : Int) by omega]
    exact ih (c + 1 + 1) (by omega) (by omega)
theorem times_f (nm : ByteArray) : Ev (fun k => dynamics_Times.f k t s nm len sp ac br) (tab (t.length - s.toNat + 1) (tm t s len sp ac br), 0) := by
  unfold dynamics_Times.f
  refine Ev.bind (speeds_f v nm) ?_
  simp only [if_true]
  have h := times_loop v (t.length - s.toNat) 1 (by omega) (by omega)
  rw [show tab 1 (tm t s len sp ac br) = [0] from rfl, show ((1 : Nat) : Int) = 1 from rfl] at h
  exact h
end

section
variable {t : List S34} {s len sp ac br : Int} (v : Val t s len sp ac br)
include v
theorem run_f (nm : ByteArray) : Ev (fun k => dynamics_Run.f k t s nm len sp ac br) (cdiv (tm t s len sp ac br (t.length - s.toNat)) 1000, 0) := by
  have hn := v.n
  unfold dynamics_Run.f
  refine Ev.bind (times_f v nm) ?_
  have h4 := tm_range v (t.length - s.toNat) (by omega)
  simp only [if_true, length_tab]
  simp (disch := omega) only [if_pos, wr, rd_tab]
  rw [show (((t.length - s.toNat + 1 : Nat) : Int) - 1).toNat = t.length - s.toNat by omega]
  simp (disch := omega) only [ceil_f, obind]
  exact Ev.now _
end

theorem rin_t (a b c : Int) (h1 : b ≤ a) (h2 : a ≤ c) : railplanref6_in.f a b c = some true := by
  unfold railplanref6_in.f; rw [if_pos h1, decide_eq_true h2]
theorem within_any (a b c : Int) : dynamics_within.f a b c = some (decide (b ≤ a ∧ a ≤ c)) := by
  unfold dynamics_within.f
  by_cases h1 : a ≥ b
  · rw [if_pos h1]
    congr 1
    exact decide_eq_decide.2 ⟨fun h => ⟨h1, h⟩, fun h => h.2⟩
  · rw [if_neg h1, decide_eq_false (fun h => h1 h.1)]
theorem rin_any (a b c : Int) : railplanref6_in.f a b c = dynamics_within.f a b c := rfl
theorem rCheck_any (nm : ByteArray) (len sp ac br : Int) : railplanref6_CheckStock.f nm len sp ac br = dynamics_Check.f nm len sp ac br := rfl
theorem Check_any (nm : ByteArray) (len sp ac br : Int) : ∃ b, dynamics_Check.f nm len sp ac br = some b ∧ (b = true → 1 ≤ len ∧ len ≤ 40 ∧ 1000 ≤ sp ∧ sp ≤ 100000 ∧ 100 ≤ ac ∧ ac ≤ 2000 ∧ 100 ≤ br ∧ br ≤ 2000) := by
  unfold dynamics_Check.f
  simp only [within_any, obind]
  by_cases h1 : 1 ≤ len ∧ len ≤ 40
  · by_cases h2 : 1000 ≤ sp ∧ sp ≤ 100000
    · by_cases h3 : 100 ≤ ac ∧ ac ≤ 2000
      · by_cases h4 : 100 ≤ br ∧ br ≤ 2000
        · rw [decide_eq_true h1, decide_eq_true h2, decide_eq_true h3, decide_eq_true h4]
          exact ⟨true, rfl, fun _ => ⟨h1.1, h1.2, h2.1, h2.2, h3.1, h3.2, h4.1, h4.2⟩⟩
        · rw [decide_eq_true h1, decide_eq_true h2, decide_eq_true h3, decide_eq_false h4]
          exact ⟨false, rfl, fun h => by cases h⟩
      · rw [decide_eq_true h1, decide_eq_true h2, decide_eq_false h3]
        exact ⟨false, rfl, fun h => by cases h⟩
    · rw [decide_eq_true h1, decide_eq_false h2]
      exact ⟨false, rfl, fun h => by cases h⟩
  · rw [decide_eq_false h1]
    exact ⟨false, rfl, fun h => by cases h⟩
theorem check_any_loop (t : List S34) (s : Int) (hn : t.length ≤ 4000) (hs : -9223372036854775808 ≤ s ∧ s ≤ 9223372036854775807) (d : Nat) : ∀ i : Nat, i + d = t.length →
    ∃ e, Ev (fun k => dynamics_check.l0 k t s t (t.length : Int) (i : Int)) e ∧ Ev (fun k => railplanref6_bad.l0 k t s (i : Int)) e ∧ (e = 0 → (∀ j, i ≤ j → j < t.length → okc (t.getD j z34)) ∧ 0 ≤ s ∧ s ≤ (t.length : Int) - 2) := by
  induction d with
  | zero =>
    intro i hi
    by_cases h : 0 ≤ s ∧ s ≤ (t.length : Int) - 2
    · refine ⟨0, ?_, ?_, fun _ => ⟨fun j h1 h2 => by omega, h⟩⟩
      · refine Ev_succ ?_
        simp only [dynamics_check.l0]
        simp (disch := omega) only [if_neg, wr, within_any, obind]
        rw [decide_eq_true h]
        exact Ev.now _
      · refine Ev_succ ?_
        simp only [railplanref6_bad.l0]
        simp (disch := omega) only [if_neg, wr]
        exact Ev.now _
    · refine ⟨4, ?_, ?_, fun h => by omega⟩
      · refine Ev_succ ?_
        simp only [dynamics_check.l0]
        simp (disch := omega) only [if_neg, wr, within_any, obind]
        rw [decide_eq_false h]
        exact Ev.now _
      · refine Ev_succ ?_
        simp only [railplanref6_bad.l0]
        simp (disch := omega) only [if_neg, wr]
        by_cases h1 : s < 0
        · simp only [if_pos h1]; exact Ev.now _
        · simp only [if_neg h1]
          simp (disch := omega) only [if_pos]
          exact Ev.now _
  | succ d ih =>
    intro i hi
    obtain ⟨e, h1, h2, h3⟩ := ih (i + 1) (by omega)
    have hrd : rd_T34 t (i : Int) = t.getD i z34 := by unfold rd_T34; rw [Int.toNat_natCast]
    by_cases ha : 1000 ≤ (t.getD i z34).f0 ∧ (t.getD i z34).f0 ≤ 100000
    · by_cases hb : -40 ≤ (t.getD i z34).f1 ∧ (t.getD i z34).f1 ≤ 40
      · refine ⟨e, ?_, ?_, fun he => ⟨fun j a b => ?_, (h3 he).2⟩⟩
        · refine Ev_succ ?_
          simp only [dynamics_check.l0, hrd]
          simp (disch := omega) only [if_pos, wr, within_t, obind, if_true]
          rw [show (i : Int) + 1 = ((i + 1 : Nat) : Int) by omega]
          exact h1
        · refine Ev_succ ?_
          simp only [railplanref6_bad.l0, hrd]
          simp (disch := omega) only [if_pos, wr, rin_t, obind, if_true]
          rw [show (i : Int) + 1 = ((i + 1 : Nat) : Int) by omega]
          exact h2
        · rcases Nat.eq_or_lt_of_le a with h | h
          · subst h; exact ⟨ha.1, ha.2, hb.1, hb.2⟩
          · exact (h3 he).1 j h b
      · refine ⟨4, ?_, ?_, fun h => by omega⟩
        · refine Ev_succ ?_
          simp only [dynamics_check.l0, hrd]
          simp (disch := omega) only [if_pos, wr, within_t, obind, if_true]
          simp only [within_any, obind]
          rw [decide_eq_false hb]
          exact Ev.now _
        · refine Ev_succ ?_
          simp only [railplanref6_bad.l0, hrd]
          simp (disch := omega) only [if_pos, wr, rin_t, obind, if_true]
          simp only [rin_any, within_any, obind]
          rw [decide_eq_false hb]
          exact Ev.now _
    · refine ⟨4, ?_, ?_, fun h => by omega⟩
      · refine Ev_succ ?_
        simp only [dynamics_check.l0, hrd]
        simp (disch := omega) only [if_pos]
        simp only [within_any, obind]
        rw [decide_eq_false ha]
        exact Ev.now _
      · refine Ev_succ ?_
        simp only [railplanref6_bad.l0, hrd]
        simp (disch := omega) only [if_pos]
        simp only [rin_any, within_any, obind]
        rw [decide_eq_false ha]
        exact Ev.now _
theorem getD_of_mem (t : List S34) (c : S34) (h : c ∈ t) : ∃ j, j < t.length ∧ t.getD j z34 = c := by
  obtain ⟨j, hj, e⟩ := List.getElem_of_mem h
  exact ⟨j, hj, by rw [List.getD_eq_getElem?_getD, List.getElem?_eq_getElem hj, e]; rfl⟩
theorem check_any (t : List S34) (s : Int) (hs : -9223372036854775808 ≤ s ∧ s ≤ 9223372036854775807) (nm : ByteArray) (len sp ac br : Int) :
    ∃ e, Ev (fun k => dynamics_check.f k t s nm len sp ac br) e ∧ Ev (fun k => railplanref6_bad.f k t s nm len sp ac br) e ∧ (e = 0 → Val t s len sp ac br) := by
  obtain ⟨b, hb, hv⟩ := Check_any nm len sp ac br
  unfold dynamics_check.f railplanref6_bad.f
  simp only [rCheck_any, hb, obind]
  cases b with
  | false => exact ⟨1, Ev.now _, Ev.now _, fun h => by omega⟩
  | true =>
    simp only [if_true]
    by_cases hn : (t.length : Int) > 4000
    · simp only [if_pos hn]
      exact ⟨7, Ev.now _, Ev.now _, fun h => by omega⟩
    · simp only [if_neg hn]
      obtain ⟨e, h1, h2, h3⟩ := check_any_loop t s (by omega) hs t.length 0 (by omega)
      refine ⟨e, h1, h2, fun he => ?_⟩
      obtain ⟨v1, v2, v3, v4, v5, v6, v7, v8⟩ := hv rfl
      exact ⟨fun c hc => by
        obtain ⟨j, hj, rfl⟩ := getD_of_mem t c hc
        exact (h3 he).1 j (by omega) hj, (h3 he).2.1, (h3 he).2.2, by omega, v1, v2, v3, v4, v5, v6, v7, v8⟩
theorem rlimit_same (t : List S34) (a b : Int) : ∀ k c, railplanref6_limit.l0 k t a b c = dynamics_limit.l0 k t a b c := by
  intro k
  induction k generalizing b with
  | zero => intro c; rfl
  | succ k ih => intro c; simp only [railplanref6_limit.l0, dynamics_limit.l0, ih]
theorem rlimit_f {t : List S34} {s len sp ac br : Int} (v : Val t s len sp ac br) (nm : ByteArray) (k : Nat) (h : k < t.length) : Ev (fun n => railplanref6_limit.f n t (k : Int) nm len sp ac br) (lim t sp len.toNat k) := by
  have h1 := limit_f v nm k h
  unfold dynamics_limit.f at h1
  unfold railplanref6_limit.f
  simp only [rlimit_same]
  exact h1
theorem accel_f (c : S34) (nm : ByteArray) (len sp ac br : Int) (hc : okc c) (h0 : 100 ≤ ac) (h1 : ac ≤ 2000) : ∃ a, railplanref6_accel.f c.f0 c.f1 nm len sp ac br = some a ∧ 20000 * a = gainS c ac := by
  unfold okc at hc
  unfold railplanref6_accel.f gainS
  split
  · refine ⟨_, rfl, ?_⟩
    simp (disch := omega) only [wr, mx_eq]
  · exact ⟨_, rfl, rfl⟩
theorem brake_f (c : S34) (nm : ByteArray) (len sp ac br : Int) (hc : okc c) (h0 : 100 ≤ br) (h1 : br ≤ 2000) : ∃ a, railplanref6_brake.f c.f0 c.f1 nm len sp ac br = some a ∧ 20000 * a = lossS c br := by
  unfold okc at hc
  unfold railplanref6_brake.f lossS
  split
  · refine ⟨_, rfl, ?_⟩
    simp (disch := omega) only [wr, mx_eq]
  · exact ⟨_, rfl, rfl⟩
theorem rsqrt_loop (n : Int) (hn1 : 0 ≤ n) (hn2 : n ≤ 9223372036854775807) : ∀ (d : Nat) (lo hi : Int), 0 ≤ lo → lo ≤ hi → hi ≤ 3037000499 → lo * lo ≤ n → n < (hi + 1) * (hi + 1) → hi - lo ≤ d →
    Ev (fun k => railplanref1_Sqrt.l0 k n lo hi) (isq n) := by
  intro d
  induction d with
  | zero =>
    intro lo hi h1 h2 h3 h4 h5 h6
    have : lo = hi := by omega
    subst this
    refine Ev_succ ?_
    simp only [railplanref1_Sqrt.l0]
    simp (disch := omega) only [if_neg]
    rw [isq_eq (by omega) h4 h5]
    exact Ev.now lo
  | succ d ih =>
    intro lo hi h1 h2 h3 h4 h5 h6
    refine Ev_succ ?_
    simp only [railplanref1_Sqrt.l0]
    by_cases hlt : lo < hi
    · have hm : wrap64 (Int.tdiv (wrap64 (wrap64 (lo + hi) + 1)) 2) = (lo + hi + 1) / 2 := by
        have : wrap64 (wrap64 (lo + hi) + 1) = lo + hi + 1 := by simp (disch := omega) only [wr]
        rw [this, Int.tdiv_eq_ediv_of_nonneg (by omega)]
        simp (disch := omega) only [wr]
      simp only [if_pos hlt, hm]
      generalize hmid : (lo + hi + 1) / 2 = mid
      have hsq : 0 ≤ mid * mid ∧ mid * mid ≤ 3037000499 * 3037000499 := ⟨Int.mul_nonneg (by omega) (by omega), sq_le (by omega) (by omega)⟩
      have hw : wrap64 (mid - 1) = mid - 1 := wr (by omega) (by omega)
      have hw2 : wrap64 (mid * mid) = mid * mid := wr (by omega) (by omega)
      simp only [hw, hw2]
      by_cases hle : mid * mid ≤ n
      · simp only [if_pos hle]
        exact ih mid hi (by omega) (by omega) h3 hle h5 (by omega)
      · simp only [if_neg hle]
        exact ih lo (mid - 1) h1 (by omega) (by omega) h4 (by rw [Int.sub_add_cancel]; omega) (by omega)
    · simp only [if_neg hlt]
      have : lo = hi := by omega
      subst this
      rw [isq_eq (by omega) h4 h5]
      exact Ev.now lo
theorem rsqrt_f (n : Int) (h0 : 0 ≤ n) (h : n ≤ 9223372036854775807) : Ev (fun k => railplanref1_Sqrt.f k n) (isq n) := by
  unfold railplanref1_Sqrt.f
  by_cases h1 : n ≤ 0
  · simp only [if_pos h1]
    rw [show n = 0 by omega, isq_zero]
    exact Ev.now 0
  · simp only [if_neg h1]
    exact rsqrt_loop n h0 h 3037000499 0 3037000499 (by omega) (by omega) (by omega) (by omega) (by omega) (by omega)
theorem rceil_f (a b : Int) (hb : 1 ≤ b) (ha : -9223372036854775808 ≤ a ∧ a ≤ 9223372036854775807) : railplanref1_Ceil.f a b = some (cdiv a b) := by
  have h := ceil_f a b hb ha
  unfold arith_CeilDiv.f at h
  rw [if_neg (by omega), if_neg (by omega)] at h
  unfold railplanref1_Ceil.f
  rw [if_neg (by omega)]
  split at h
  · rename_i h0
    rw [if_pos h0]
    simp only [Option.some.injEq, Prod.mk.injEq] at h ⊢
    exact h.1
  · rename_i h0
    rw [if_neg h0]
    simp only [Option.some.injEq, Prod.mk.injEq] at h ⊢
    exact h.1
section
variable {t : List S34} {s len sp ac br : Int} (v : Val t s len sp ac br)
include v
/-- The bounds as the reference lays them, and the speeds by the accelerations. -/
def cR (t : List S34) (s : Nat) (sp : Int) (len n i : Nat) : Int := if 1 ≤ i ∧ i < n then cS t s sp len i else 0
def fR (t : List S34) (s : Nat) (sp ac : Int) (len n i : Nat) : Int := if i < n then fwd (cS t s sp len) (gS t s ac) i else 0
theorem rspeeds_l0 (nm : ByteArray) (n : Nat) (hn : n = t.length - s.toNat) (r : List Int × Int)
    (hr : Ev (fun k => railplanref6_Speeds.l1 k t s (n : Int) (tab (n + 1) (cR t s.toNat sp len.toNat n)) 0 nm len sp ac br) r) (d : Nat) : ∀ i : Nat, 1 ≤ i → i + d = n →
    Ev (fun k => railplanref6_Speeds.l0 k t s (n : Int) (tab (n + 1) (fun j => if j < i then cR t s.toNat sp len.toNat n j else 0)) (i : Int) nm len sp ac br) r := by
  have hv := v.n
  have h0 := v.s0
  have h1 := v.s1
  induction d with
  | zero =>
    intro i hi1 hi
    refine Ev_succ ?_
    simp only [railplanref6_Speeds.l0]
    simp (disch := omega) only [if_neg]
    rw [tab_congr (g := cR t s.toNat sp len.toNat n) (fun j hj => ?_)]
    · exact hr
    · by_cases h3 : j < i
      · rw [if_pos h3]
      · rw [if_neg h3]; unfold cR; rw [if_neg (by omega)]
  | succ d ih =>
    intro i hi1 hi
    refine Ev_succ ?_
    simp only [railplanref6_Speeds.l0, length_tab]
    have hm := most_range v len.toNat i hi1 (by omega)
    have hc := cS_range v len.toNat i hi1 (by omega)
    simp (disch := omega) only [if_pos, wr]
    rw [show s + (i : Int) - 1 = ((s.toNat + i - 1 : Nat) : Int) by omega, show s + (i : Int) = ((s.toNat + i : Nat) : Int) by omega]
    refine Ev.bind (rlimit_f v nm (s.toNat + i - 1) (by omega)) ?_
    refine Ev.bind (rlimit_f v nm (s.toNat + i) (by omega)) ?_
    have e2 : min (lim t sp len.toNat (s.toNat + i - 1)) (lim t sp len.toNat (s.toNat + i)) * min (lim t sp len.toNat (s.toNat + i - 1)) (lim t sp len.toNat (s.toNat + i)) = cS t s.toNat sp len.toNat i := rfl
    rw [mn_eq, e2, wr (by omega) (by omega), Int.toNat_natCast, set_tab, show (i : Int) + 1 = ((i + 1 : Nat) : Int) by omega]
    rw [tab_congr (g := fun j => if j < i + 1 then cR t s.toNat sp len.toNat n j else 0) (fun j hj => ?_)]
    · exact ih (i + 1) (by omega) (by omega)
    · by_cases h3 : j = i
      · subst h3; rw [if_pos rfl, if_pos (by omega)]; unfold cR; rw [if_pos (by omega)]
      · rw [if_neg h3]
        by_cases h4 : j < i
        · rw [if_pos h4, if_pos (by omega)]
        · rw [if_neg h4, if_neg (by omega)]
theorem rspeeds_l1 (nm : ByteArray) (n : Nat) (hn : n = t.length - s.toNat) (r : List Int × Int)
    (hr : Ev (fun k => railplanref6_Speeds.l2 k t s (n : Int) (tab (n + 1) (fR t s.toNat sp ac len.toNat n)) (n : Int) nm len sp ac br) r) (d : Nat) : ∀ i : Nat, i + d = n →
    Ev (fun k => railplanref6_Speeds.l1 k t s (n : Int) (tab (n + 1) (fun j => if j ≤ i then fR t s.toNat sp ac len.toNat n j else cR t s.toNat sp len.toNat n j)) (i : Int) nm len sp ac br) r := by
  have hv := v.n
  have h0 := v.s0
  have h1 := v.s1
  induction d with
  | zero =>
    intro i hi
    refine Ev_succ ?_
    simp only [railplanref6_Speeds.l1]
    simp (disch := omega) only [if_neg]
    rw [tab_congr (g := fR t s.toNat sp ac len.toNat n) (fun j hj => if_pos (by omega))]
    exact hr
  | succ d ih =>
    intro i hi
    refine Ev_succ ?_
    have hok := cell_ok v i (by omega)
    have hg := gS_range v i (by omega)
    have ha1 := v.a1
    have h2 := fwd_ok v i (by omega)
    simp only [railplanref6_Speeds.l1, length_tab]
    have hrd : rd_T34 t (s + (i : Int)) = t.getD (s.toNat + i) z34 := by unfold rd_T34; rw [show (s + (i : Int)).toNat = s.toNat + i by omega]
    simp (disch := omega) only [if_pos, wr, rd_tab, Int.toNat_natCast, hrd]
    obtain ⟨a, ea, ha⟩ := accel_f _ nm len sp ac br hok v.a0 v.a1
    have e : gainS (t.getD (s.toNat + i) z34) ac = gS t s.toNat ac i := rfl
    rw [e] at ha
    rw [ea]
    simp only [obind]
    rw [show ((i : Int) + 1).toNat = i + 1 by omega, if_neg (show ¬ i + 1 ≤ i by omega), wr (x := 20000 * a) (by omega) (by omega), ha, mn_eq]
    have eF : fR t s.toNat sp ac len.toNat n i = fwd (cS t s.toNat sp len.toNat) (gS t s.toNat ac) i := by unfold fR; rw [if_pos (by omega)]
    rw [eF, wr (by omega) (by omega), set_tab, show (i : Int) + 1 = ((i + 1 : Nat) : Int) by omega]
    rw [tab_congr (g := fun j => if j ≤ i + 1 then fR t s.toNat sp ac len.toNat n j else cR t s.toNat sp len.toNat n j) (fun j hj => ?_)]
    · exact ih (i + 1) (by omega)
    · by_cases h3 : j = i + 1
      · subst h3
        rw [if_pos rfl, if_pos (by omega)]
        unfold cR fR
        by_cases h4 : i + 1 < n
        · rw [if_pos (by omega), if_pos h4]; rfl
        · rw [if_neg (by omega), if_neg h4]; omega
      · rw [if_neg h3]
        by_cases h4 : j ≤ i
        · rw [if_pos h4, if_pos (by omega)]
        · rw [if_neg h4, if_neg (by omega)]
theorem rspeeds_l2 (nm : ByteArray) (n : Nat) (hn : n = t.length - s.toNat) (r : List Int × Int)
    (hr : Ev (fun k => railplanref6_Speeds.l3 k (n : Int) (tab (n + 1) (sq (cS t s.toNat sp len.toNat) (gS t s.toNat ac) (lS t s.toNat br) n)) 0) r) : ∀ i : Nat, i ≤ n →
    Ev (fun k => railplanref6_Speeds.l2 k t s (n : Int) (tab (n + 1) (fun j => if j < i then fR t s.toNat sp ac len.toNat n j else sq (cS t s.toNat sp len.toNat) (gS t s.toNat ac) (lS t s.toNat br) n j)) (i : Int) nm len sp ac br) r := by
  have hv := v.n
  have h0 := v.s0
  have h1 := v.s1
  intro i
  induction i with
  | zero =>
    intro hi
    refine Ev_succ ?_
    simp only [railplanref6_Speeds.l2]
    simp (disch := omega) only [if_neg]
    exact hr
  | succ i ih =>
    intro hi
    refine Ev_succ ?_
    have hok := cell_ok v i (by omega)
    have hl := lS_range v i (by omega)
    have hb1 := v.b1
    have h2 : 0 ≤ sq (cS t s.toNat sp len.toNat) (gS t s.toNat ac) (lS t s.toNat br) n (i + 1) ∧ sq (cS t s.toNat sp len.toNat) (gS t s.toNat ac) (lS t s.toNat br) n (i + 1) ≤ 10000000000 := by rw [hn]; exact sq_ok v (i + 1) (by omega)
    simp only [railplanref6_Speeds.l2, length_tab]
    have hrd : rd_T34 t (s + ((i + 1 : Nat) : Int) - 1) = t.getD (s.toNat + i) z34 := by unfold rd_T34; rw [show (s + ((i + 1 : Nat) : Int) - 1).toNat = s.toNat + i by omega]
    simp (disch := omega) only [if_pos, wr, rd_tab, hrd]
    obtain ⟨a, ea, ha⟩ := brake_f _ nm len sp ac br hok v.b0 v.b1
    have e : lossS (t.getD (s.toNat + i) z34) br = lS t s.toNat br i := rfl
    rw [e] at ha
    rw [ea]
    simp only [obind]
    rw [show (((i + 1 : Nat) : Int) - 1).toNat = i by omega, show ((i + 1 : Nat) : Int).toNat = i + 1 by omega, if_neg (show ¬ i + 1 < i + 1 by omega), wr (x := 20000 * a) (by omega) (by omega), ha, mn_eq]
    have eF : fR t s.toNat sp ac len.toNat n i = fwd (cS t s.toNat sp len.toNat) (gS t s.toNat ac) i := by unfold fR; rw [if_pos (by omega)]
    rw [eF, wr (by omega) (by omega), set_tab, show ((i + 1 : Nat) : Int) - 1 = (i : Int) by omega]
    rw [tab_congr (g := fun j => if j < i then fR t s.toNat sp ac len.toNat n j else sq (cS t s.toNat sp len.toNat) (gS t s.toNat ac) (lS t s.toNat br) n j) (fun j hj => ?_)]
    · exact ih (by omega)
    · by_cases h3 : j = i
      · subst h3
        rw [if_pos rfl, if_neg (by omega), sq_step (show j < n by omega)]
      · rw [if_neg h3]
        by_cases h4 : j < i
        · rw [if_pos h4, if_pos (by omega)]
        · rw [if_neg h4, if_neg (by omega)]
theorem rspeeds_l3 (n : Nat) (hn : n = t.length - s.toNat) (f : Nat → Int) (hf : ∀ i, i ≤ n → 0 ≤ f i ∧ f i ≤ 10000000000) (d : Nat) : ∀ i : Nat, i + d = n + 1 →
    Ev (fun k => railplanref6_Speeds.l3 k (n : Int) (tab (n + 1) (fun j => if j < i then isq (f j) else f j)) (i : Int)) (tab (n + 1) (fun j => isq (f j)), 0) := by
  have hv := v.n
  induction d with
  | zero =>
    intro i hi
    refine Ev_succ ?_
    simp only [railplanref6_Speeds.l3]
    simp (disch := omega) only [if_neg]
    rw [tab_congr (g := fun j => isq (f j)) (fun j hj => if_pos (by omega))]
    exact Ev.now _
  | succ d ih =>
    intro i hi
    refine Ev_succ ?_
    simp only [railplanref6_Speeds.l3, length_tab]
    simp (disch := omega) only [if_pos, wr, rd_tab, Int.toNat_natCast]
    rw [if_neg (show ¬ i < i by omega)]
    have := hf i (by omega)
    refine Ev.bind (rsqrt_f (f i) (by omega) (by omega)) ?_
    rw [set_tab, show (i : Int) + 1 = ((i + 1 : Nat) : Int) by omega]
    rw [tab_congr (g := fun j => if j < i + 1 then isq (f j) else f j) (fun j hj => ?_)]
    · exact ih (i + 1) (by omega)
    · by_cases h1 : j = i
      · subst h1; rw [if_pos rfl, if_pos (by omega)]
      · rw [if_neg h1]
        by_cases h2 : j < i
        · rw [if_pos h2, if_pos (by omega)]
        · rw [if_neg h2, if_neg (by omega)]
theorem rspeeds_f (nm : ByteArray) (hbad : Ev (fun k => railplanref6_bad.f k t s nm len sp ac br) 0) : Ev (fun k => railplanref6_Speeds.f k t s nm len sp ac br) (tab (t.length - s.toNat + 1) (spd t s len sp ac br), 0) := by
  have hv := v.n
  have h0 := v.s0
  have h1 := v.s1
  unfold railplanref6_Speeds.f
  refine Ev.bind hbad ?_
  obtain ⟨n, hn⟩ : ∃ n, t.length - s.toNat = n := ⟨_, rfl⟩
  have hw0 : wrap64 ((t.length : Int) - s) = (n : Int) := by rw [wr (by omega) (by omega)]; omega
  have hw : wrap64 ((n : Int) + 1) = ((n + 1 : Nat) : Int) := by rw [wr (by omega) (by omega)]; omega
  have hw1 : 0 ≤ wrap64 (wrap64 ((t.length : Int) - s) + 1) := by rw [hw0, hw]; omega
  have hw2 : (wrap64 (wrap64 ((t.length : Int) - s) + 1)).toNat ≤ 35184372088832 := by rw [hw0, hw]; omega
  simp only [if_true, if_pos hw1, if_pos hw2]
  rw [hw0, hw, Int.toNat_natCast, replicate_tab, hn]
  have hc0 : ∀ i, 1 ≤ i → i < n → 0 ≤ cS t s.toNat sp len.toNat i := fun j a b => by have := cS_range v len.toNat j a (by omega); omega
  have hg0 : ∀ i, i < n → 0 ≤ gS t s.toNat ac i := fun j a => by have := gS_range v j (by omega); omega
  have hl0 : ∀ i, i < n → 0 ≤ lS t s.toNat br i := fun j a => by have := lS_range v j (by omega); omega
  have E3 := rspeeds_l3 v n hn.symm (fun i => sq (cS t s.toNat sp len.toNat) (gS t s.toNat ac) (lS t s.toNat br) n i) (fun i hi => by rw [← hn]; exact sq_ok v i (by omega)) (n + 1) 0 (by omega)
  rw [tab_congr (g := sq (cS t s.toNat sp len.toNat) (gS t s.toNat ac) (lS t s.toNat br) n) (fun j _ => if_neg (by omega)), show ((0 : Nat) : Int) = 0 from rfl] at E3
  have E2 := rspeeds_l2 v nm n hn.symm _ E3 n (Nat.le_refl _)
  rw [tab_congr (g := fR t s.toNat sp ac len.toNat n) (fun j hj => by
    by_cases h : j < n
    · rw [if_pos h]
    · rw [if_neg h, show j = n by omega, sq_top]; unfold fR; rw [if_neg (by omega)])] at E2
  have E1 := rspeeds_l1 v nm n hn.symm _ E2 n 0 (by omega)
  rw [tab_congr (g := cR t s.toNat sp len.toNat n) (fun j hj => by
    by_cases h : j ≤ 0
    · rw [if_pos h, show j = 0 by omega]; unfold fR cR; rw [if_pos (by omega), if_neg (by omega)]; rfl
    · rw [if_neg h]), show ((0 : Nat) : Int) = 0 from rfl] at E1
  have E0 := rspeeds_l0 v nm n hn.symm _ E1 (n - 1) 1 (by omega) (by omega)
  rw [tab_congr (g := fun _ => 0) (fun j hj => by
    by_cases h : j < 1
    · rw [if_pos h, show j = 0 by omega]; unfold cR; rw [if_neg (by omega)]
    · rw [if_neg h]), show ((1 : Nat) : Int) = 1 from rfl] at E0
  have e : (fun j => isq ((fun i => sq (cS t s.toNat sp len.toNat) (gS t s.toNat ac) (lS t s.toNat br) n i) j)) = spd t s len sp ac br := by
    funext j; unfold spd; rw [hn]
  rw [e] at E0
  exact E0
theorem rtimes_loop (d : Nat) : ∀ i : Nat, 1 ≤ i → i + d = t.length - s.toNat + 1 →
    Ev (fun k => railplanref6_Times.l0 k (tab (t.length - s.toNat + 1) (spd t s len sp ac br)) (tab (t.length - s.toNat + 1) (fun j => if j < i then tm t s len sp ac br j else 0)) (i : Int)) (tab (t.length - s.toNat + 1) (tm t s len sp ac br), 0) := by
  have hn := v.n
  induction d with
  | zero =>
    intro i h1 hi
    refine Ev_succ ?_
    simp only [railplanref6_Times.l0, length_tab]
    simp (disch := omega) only [if_neg]
    rw [tab_congr (g := tm t s len sp ac br) (fun j hj => if_pos (by omega))]
    exact Ev.now _
  | succ d ih =>
    intro i h1 hi
    refine Ev_succ ?_
    simp only [railplanref6_Times.l0, length_tab]
    obtain ⟨c, rfl⟩ : ∃ c, i = c + 1 := ⟨i - 1, by omega⟩
    have hs := spd_sum v c (by omega)
    have h2 := spd_range v c (by omega)
    have h3 := spd_range v (c + 1) (by omega)
    have h4 := tm_range v c (by omega)
    have h5 := cdiv_lo (a := 20000000) (by omega) hs
    have h6 := cdiv_hi (a := 20000000) (by omega) hs
    simp (disch := omega) only [if_pos, wr, rd_tab, Int.toNat_natCast]
    rw [show (((c + 1 : Nat) : Int) - 1).toNat = c by omega]
    simp (disch := omega) only [wr, rceil_f, obind, if_pos]
    have e : tm t s len sp ac br c + cdiv 20000000 (spd t s len sp ac br c + spd t s len sp ac br (c + 1)) = tm t s len sp ac br (c + 1) := rfl
    rw [e, set_tab, show ((c + 1 : Nat) : Int) + 1 = ((c + 1 + 1 : Nat) : Int) by omega]
    rw [tab_congr (f := fun j => if j = c + 1 then tm t s len sp ac br (c + 1) else if j < c + 1 then tm t s len sp ac br j else 0) (g := fun j => if j < c + 1 + 1 then tm t s len sp ac br j else 0) (fun j hj => ?_)]
    · exact ih (c + 1 + 1) (by omega) (by omega)
    · by_cases h7 : j = c + 1
      · subst h7; rw [if_pos rfl, if_pos (by omega)]
      · rw [if_neg h7]
        by_cases h8 : j < c + 1
        · rw [if_pos h8, if_pos (by omega)]
        · rw [if_neg h8, if_neg (by omega)]
theorem rtimes_f (nm : ByteArray) (hbad : Ev (fun k => railplanref6_bad.f k t s nm len sp ac br) 0) : Ev (fun k => railplanref6_Times.f k t s nm len sp ac br) (tab (t.length - s.toNat + 1) (tm t s len sp ac br), 0) := by
  have hn := v.n
  unfold railplanref6_Times.f
  refine Ev.bind (rspeeds_f v nm hbad) ?_
  have hl : ((tab (t.length - s.toNat + 1) (spd t s len sp ac br)).length : Int).toNat = t.length - s.toNat + 1 := by rw [Int.toNat_natCast, length_tab]
  have h1 : 0 ≤ ((tab (t.length - s.toNat + 1) (spd t s len sp ac br)).length : Int) := by omega
  have h2 : ((tab (t.length - s.toNat + 1) (spd t s len sp ac br)).length : Int).toNat ≤ 35184372088832 := by rw [hl]; omega
  simp only [if_true, if_pos h1, if_pos h2]
  rw [hl, replicate_tab]
  have h := rtimes_loop v (t.length - s.toNat) 1 (by omega) (by omega)
  rw [tab_congr (f := fun j => if j < 1 then tm t s len sp ac br j else 0) (g := fun _ => 0) (fun j hj => by
    by_cases h : j < 1
    · rw [if_pos h, show j = 0 by omega]; rfl
    · rw [if_neg h]), show ((1 : Nat) : Int) = 1 from rfl] at h
  exact h
theorem rrun_f (nm : ByteArray) (hbad : Ev (fun k => railplanref6_bad.f k t s nm len sp ac br) 0) : Ev (fun k => railplanref6_Run.f k t s nm len sp ac br) (cdiv (tm t s len sp ac br (t.length - s.toNat)) 1000, 0) := by
  have hn := v.n
  unfold railplanref6_Run.f
  refine Ev.bind (rtimes_f v nm hbad) ?_
  have h4 := tm_range v (t.length - s.toNat) (by omega)
  simp only [if_true, length_tab]
  simp (disch := omega) only [if_pos, wr, rd_tab]
  rw [show (((t.length - s.toNat + 1 : Nat) : Int) - 1).toNat = t.length - s.toNat by omega]
  simp (disch := omega) only [rceil_f, obind]
  exact Ev.now _
end
theorem same_loop (l : List Int) (hl : l.length ≤ 1000000) (d : Nat) : ∀ i : Nat, i + d = l.length → Ev (fun k => railplankeep_Same_int.l0 k l l (l.length : Int) (i : Int)) true := by
  induction d with
  | zero =>
    intro i hi
    refine Ev_succ ?_
    simp only [railplankeep_Same_int.l0]
    simp (disch := omega) only [if_neg]
    exact Ev.now _
  | succ d ih =>
    intro i hi
    refine Ev_succ ?_
    simp only [railplankeep_Same_int.l0]
    simp (disch := omega) only [if_pos, wr, if_true]
    rw [show (i : Int) + 1 = ((i + 1 : Nat) : Int) by omega]
    exact ih (i + 1) (by omega)
theorem same_f (l : List Int) (hl : l.length ≤ 1000000) : Ev (fun k => railplankeep_Same_int.f k l l) true := by
  unfold railplankeep_Same_int.f
  simp only [if_true]
  exact same_loop l hl l.length 0 (by omega)
theorem agrees_f (t : List S34) (s : Int) (hs : -9223372036854775808 ≤ s ∧ s ≤ 9223372036854775807) (nm : ByteArray) (len sp ac br : Int) : Ev (fun k => railplanlaw6_agrees.f k t s nm len sp ac br) true := by
  obtain ⟨e, h1, h2, hv⟩ := check_any t s hs nm len sp ac br
  obtain ⟨b, hb, _⟩ := Check_any nm len sp ac br
  have key : ∃ (V T : List Int) (n : Int), V.length ≤ 1000000 ∧ T.length ≤ 1000000 ∧ Ev (fun k => dynamics_Speeds.f k t s nm len sp ac br) (V, e) ∧ Ev (fun k => railplanref6_Speeds.f k t s nm len sp ac br) (V, e) ∧ Ev (fun k => dynamics_Times.f k t s nm len sp ac br) (T, e) ∧ Ev (fun k => railplanref6_Times.f k t s nm len sp ac br) (T, e) ∧ Ev (fun k => dynamics_Run.f k t s nm len sp ac br) (n, e) ∧ Ev (fun k => railplanref6_Run.f k t s nm len sp ac br) (n, e) := by
    by_cases he : e = 0
    · subst he
      have v := hv rfl
      have hn := v.n
      exact ⟨_, _, _, by rw [length_tab]; omega, by rw [length_tab]; omega, speeds_f v nm, rspeeds_f v nm h2, times_f v nm, rtimes_f v nm h2, run_f v nm, rrun_f v nm h2⟩
    · have a1 : Ev (fun k => dynamics_Speeds.f k t s nm len sp ac br) ([], e) := by
        unfold dynamics_Speeds.f
        refine Ev.bind h1 ?_
        simp only [if_neg he]
        exact Ev.now _
      have a2 : Ev (fun k => railplanref6_Speeds.f k t s nm len sp ac br) ([], e) := by
        unfold railplanref6_Speeds.f
        refine Ev.bind h2 ?_
        simp only [if_neg he]
        exact Ev.now _
      have a3 : Ev (fun k => dynamics_Times.f k t s nm len sp ac br) ([], e) := by
        unfold dynamics_Times.f
        refine Ev.bind a1 ?_
        simp only [if_neg he]
        exact Ev.now _
      have a4 : Ev (fun k => railplanref6_Times.f k t s nm len sp ac br) ([], e) := by
        unfold railplanref6_Times.f
        refine Ev.bind a2 ?_
        simp only [if_neg he]
        exact Ev.now _
      refine ⟨[], [], 0, by simp, by simp, a1, a2, a3, a4, ?_, ?_⟩
      · unfold dynamics_Run.f
        refine Ev.bind a3 ?_
        simp only [if_neg he]
        exact Ev.now _
      · unfold railplanref6_Run.f
        refine Ev.bind a4 ?_
        simp only [if_neg he]
        exact Ev.now _
  obtain ⟨V, T, n, lV, lT, e1, e2, e3, e4, e5, e6⟩ := key
  unfold railplanlaw6_agrees.f
  refine Ev.bind e1 ?_
  refine Ev.bind e2 ?_
  refine Ev.bind e3 ?_
  refine Ev.bind e4 ?_
  refine Ev.bind e5 ?_
  refine Ev.bind e6 ?_
  simp only [rCheck_any, hb, obind, beq_self_eq_true, if_true]
  refine Ev.bind (same_f V lV) ?_
  simp only [if_true]
  refine Ev.bind (same_f T lT) ?_
  exact Ev.now _

theorem plain_loop (n : Nat) (hn : n ≤ 5000) (d : Nat) : ∀ i : Nat, i + d = n → Ev (fun k => railplanlaw6_plain.l0 k (n : Int) (List.replicate i (⟨30000, 0⟩ : S34)) (i : Int)) (List.replicate n (⟨30000, 0⟩ : S34)) := by
  induction d with
  | zero =>
    intro i hi
    refine Ev_succ ?_
    simp only [railplanlaw6_plain.l0, List.length_replicate]
    simp (disch := omega) only [if_neg]
    rw [show i = n by omega]
    exact Ev.now _
  | succ d ih =>
    intro i hi
    refine Ev_succ ?_
    simp only [railplanlaw6_plain.l0, List.length_replicate]
    simp (disch := omega) only [if_pos, wr]
    rw [show List.replicate i (⟨30000, 0⟩ : S34) ++ [⟨30000, 0⟩] = List.replicate (i + 1) (⟨30000, 0⟩ : S34) by rw [List.replicate_succ']]
    rw [show (i : Int) + 1 = ((i + 1 : Nat) : Int) by omega]
    exact ih (i + 1) (by omega)
theorem plain_f (n : Nat) (hn : n ≤ 5000) : Ev (fun k => railplanlaw6_plain.f k (n : Int)) (List.replicate n (⟨30000, 0⟩ : S34)) := by
  unfold railplanlaw6_plain.f
  exact plain_loop n hn n 0 (by omega)
theorem plain_ok (n : Nat) : ∀ c ∈ List.replicate n (⟨30000, 0⟩ : S34), okc c := by
  intro c hc
  have := List.eq_of_mem_replicate hc
  subst this
  unfold okc
  simp only
  omega

theorem DynamicsReference (l0 : List S34) (a1 : Int) (nm : ByteArray) (len sp ac br : Int) (h : (Lit.int .i64 a1).wf = true) : ∃ k, railplanlaw6_DynamicsReference.f k l0 a1 nm len sp ac br = some true := by
  have hb := bounds_i64 h
  refine Ev.rounds ?_
  unfold railplanlaw6_DynamicsReference.f
  refine Ev.bind (agrees_f l0 a1 (by omega) nm len sp ac br) ?_
  simp only [if_true]
  refine Ev.bind (plain_f 3 (by omega)) ?_
  refine Ev.bind (agrees_f _ 0 (by omega) _ _ _ _ _) ?_
  simp only [if_true]
  have hw : dynamics_Check.f (⟨#[]⟩ : ByteArray) 1 5000 500 500 = some true := by
    unfold dynamics_Check.f
    rw [within_t 1 _ _ (by omega) (by omega), within_t 5000 _ _ (by omega) (by omega), within_t 500 _ _ (by omega) (by omega)]
    rfl
  rw [hw]
  simp only [obind]
  exact Ev.now _

end Go.Proofs.Ytfnpoalffpnllaa.Pure
