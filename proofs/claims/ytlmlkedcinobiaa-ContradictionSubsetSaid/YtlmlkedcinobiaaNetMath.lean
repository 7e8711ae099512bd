/- Plain lemmas on networks: what the makers make, what the reference's tests answer. -/
import Derived.Test.YtlmlkedcinobiaaXAllx55
import Derived.Test.YtlmlkedcinobiaaXAllx11
import Derived.Test.YtlmlkedcinobiaaXAllx24
import Derived.Test.YtlmlkedcinobiaaXAllx21
import Derived.Test.YtlmlkedcinobiaaXAllx22
import Derived.Test.YtlmlkedcinobiaaXAllx33
import Derived.Test.YtlmlkedcinobiaaXAllx26
import Derived.Test.YtlmlkedcinobiaaXAllx7
import Derived.Test.YtlmlkedcinobiaaXAllx17
set_option linter.unusedVariables false
set_option linter.unusedSimpArgs false
namespace Go.Proofs.Ytlmlkedcinobiaa.NetMath
open Go.RowKit Go.Proofs.Ytlmlkedcinobiaa.XAll Go.Proofs.YtlmlkedcinobiaaW.PrintWords Go.Proofs.YtlmlkedcinobiaaW.PrintLast Go.Proofs.YtlmlkedcinobiaaW.PrintMore
theorem rd_set (ts : List Int) (j : Nat) (x i : Int) (hj : j < ts.length) (h0 : 0 ≤ i) (h1 : i < ts.length) : rd (ts.set j x) i = if i = (j : Int) then x else rd ts i := by
  unfold rd
  rw [List.getD_eq_getElem?_getD, List.getElem?_set, List.getD_eq_getElem?_getD]
  by_cases e : i = (j : Int)
  · subst e
    simp [hj]
  · rw [if_neg (by omega), if_neg e]
theorem refmod_f (a b : Int) (h : 1 ≤ b) (hb : b ≤ 1000000) (ha : -1000000000 ≤ a ∧ a ≤ 1000000000) : railplanref1_Mod.f a b = some (a % b) := by
  unfold railplanref1_Mod.f
  rw [if_neg (by omega), if_neg (by omega)]
  have h3 := Int.tmod_eq_emod (a := a) (b := b)
  have h4 := Int.emod_nonneg a (show b ≠ 0 by omega)
  have h5 := Int.emod_lt_of_pos a (show 0 < b by omega)
  by_cases hd : 0 ≤ a ∨ b ∣ a
  · rw [if_pos hd] at h3
    rw [if_neg (by omega)]
    simp [h3]
  · rw [if_neg hd] at h3
    have hz : a % b ≠ 0 := fun hz => hd (.inr (Int.dvd_of_emod_eq_zero hz))
    have hn : (b.natAbs : Int) = b := by omega
    rw [if_pos (by omega)]
    have e : wrap64 (a.tmod b + b) = a % b := by unfold wrap64; omega
    rw [e]
theorem reflasts_f (P : Int) (le : List S34) (ac : List S36) (ts : List Int) (a : S36) (hP : 2 ≤ P ∧ P ≤ 7200) (hg : GoodAct P ts.length a) (hts : ∀ i, 0 ≤ i → i < (ts.length : Int) → 0 ≤ rd ts i ∧ rd ts i ≤ 7200) : railplanref11_Lasts.f P le ac ts a.f0 a.f1 a.f2 a.f3 a.f4 a.f5 = some (lastsF P a (rd ts a.f1) (rd ts a.f2)) := by
  obtain ⟨⟨q1, q1'⟩, ⟨q2, q2'⟩, ⟨q3, q3'⟩, _, _⟩ := hg
  have hx := hts a.f1 q1 q1'
  have hy := hts a.f2 q2 q2'
  unfold railplanref11_Lasts.f lastsF
  rw [if_pos q2, if_pos q2', if_pos q1, if_pos q1']
  generalize rd ts a.f1 = x at *
  generalize rd ts a.f2 = y at *
  have e1 : wrap64 (y - x) = y - x := by unfold wrap64; omega
  have e2 : wrap64 (y - x - a.f3) = y - x - a.f3 := by unfold wrap64; omega
  rw [e1, e2, refmod_f _ _ (by omega) (by omega) (by omega)]
  have h1 := Int.emod_nonneg (y - x - a.f3) (show P ≠ 0 by omega)
  have h2 := Int.emod_lt_of_pos (y - x - a.f3) (show 0 < P by omega)
  have e3 : wrap64 (a.f3 + (y - x - a.f3) % P) = a.f3 + (y - x - a.f3) % P := by unfold wrap64; omega
  show some (wrap64 (a.f3 + (y - x - a.f3) % P)) = _
  rw [e3]
/-- The sum over all activities, those that are ready with their durations; none: one is not satisfied. -/
def sumD (P : Int) (ts : List Int) (i : Int) : List S36 → Int → Option Int
  | [], s => some s
  | a :: al, s => if a.f1 > i ∨ a.f2 > i then sumD P ts i al (s + a.f5 * a.f3) else if lastsF P a (rd ts a.f1) (rd ts a.f2) > a.f4 then none else sumD P ts i al (s + a.f5 * lastsF P a (rd ts a.f1) (rd ts a.f2))
/-- A trial is discarded. -/
def discF (P : Int) (ac : List S36) (ts : List Int) (i : Int) (all found : Bool) (best : Int) : Bool := match sumD P ts i ac 0 with
  | none => true
  | some s => all && (found && decide (s ≥ best))
theorem rd36d (l : List S36) (i : Nat) (h : i < l.length) : l.drop i = rd_T36 l (i : Int) :: l.drop (i + 1) := by
  unfold rd_T36
  rw [Int.toNat_natCast, List.getD_eq_getElem?_getD, List.getElem?_eq_getElem h]
  exact List.drop_eq_getElem_cons h
theorem okNet_good {P : Int} {ev : List S34} {ac : List S36} (h : okNet P ev ac = true) : (2 ≤ P ∧ P ≤ 7200) ∧ ev.length ≤ 48 ∧ ac.length ≤ 512 ∧ ∀ a ∈ ac, GoodAct P ev.length a := by
  unfold okNet at h
  rw [Bool.and_eq_true, decide_eq_true_eq] at h
  obtain ⟨⟨h1, h2, h3, h4⟩, h5⟩ := h
  refine ⟨⟨h1, h2⟩, by omega, by omega, fun a ha => ?_⟩
  have h6 : badAct P ((ev.length : Int) - 1) a = false := by
    cases hb : badAct P ((ev.length : Int) - 1) a with
    | false => rfl
    | true =>
      have : ac.any (badAct P ((ev.length : Int) - 1)) = true := List.any_eq_true.2 ⟨a, ha, hb⟩
      rw [this] at h5
      exact absurd h5 (by decide)
  unfold badAct at h6
  simp at h6
  exact ⟨by omega, by omega, by omega, by omega, by omega⟩
theorem wrap_succ (i : Nat) (h : i ≤ 1000000) : wrap64 ((i : Int) + 1) = ((i + 1 : Nat) : Int) := by unfold wrap64; omega
theorem refin_f (a lo hi : Int) : railplanref11_in.f a lo hi = some (decide (lo ≤ a) && decide (a ≤ hi)) := by
  unfold railplanref11_in.f
  by_cases h : lo ≤ a
  · by_cases h2 : a ≤ hi <;> simp [h, h2]
  · simp [h]
theorem refcheck_l0 (P : Int) (le : List S34) (ac : List S36) (hle : le.length ≤ 48) (hac : ac.length ≤ 512) : ∀ (d i k : Nat), i + d = ac.length → d < k → railplanref11_Check.l0 k (i : Int) P le ac = some (!(ac.drop i).any (badAct P ((le.length : Int) - 1)))
  | 0, i, k, hi, hk => by
    obtain ⟨k, rfl⟩ : ∃ m, k = m + 1 := ⟨k - 1, by omega⟩
    simp only [railplanref11_Check.l0]
    rw [if_neg (by omega), List.drop_of_length_le (by omega)]
    rfl
  | d + 1, i, k, hi, hk => by
    obtain ⟨k, rfl⟩ : ∃ m, k = m + 1 := ⟨k - 1, by omega⟩
    have ih := refcheck_l0 P le ac hle hac d (i + 1) k (by omega) (by omega)
    simp only [railplanref11_Check.l0]
    rw [if_pos (by omega), if_pos (by omega), rd36d ac i (by omega), List.any_cons]
    generalize rd_T36 ac (i : Int) = x
    have e0 : wrap64 ((le.length : Int) - 1) = (le.length : Int) - 1 := by unfold wrap64; omega
    rw [e0, wrap_succ i (by omega), ih, refin_f, refin_f, refin_f]
    simp only [Option.bind_some]
    generalize (List.drop (i + 1) ac).any (badAct P ((le.length : Int) - 1)) = b
    have hb : badAct P ((le.length : Int) - 1) x = (!(decide (0 ≤ x.f1) && decide (x.f1 ≤ (le.length : Int) - 1)) || (!(decide (0 ≤ x.f2) && decide (x.f2 ≤ (le.length : Int) - 1)) || (decide (x.f1 = x.f2) || (decide (x.f3 < -65536) || (decide (x.f3 > x.f4) || (decide (x.f4 > 65536) || (decide (x.f4 - x.f3 ≥ P) || !(decide (0 ≤ x.f5) && decide (x.f5 ≤ 1048576))))))))) := rfl
    rw [hb]
    generalize (decide (0 ≤ x.f1) && decide (x.f1 ≤ (le.length : Int) - 1)) = b1
    generalize (decide (0 ≤ x.f2) && decide (x.f2 ≤ (le.length : Int) - 1)) = b2
    generalize (decide (0 ≤ x.f5) && decide (x.f5 ≤ 1048576)) = b5
    cases b1
    · simp
    · cases b2
      · simp
      · simp only [if_true]
        by_cases h3 : x.f1 = x.f2
        · simp [h3]
        · by_cases h4 : x.f3 < -65536
          · simp [h3, h4]
          · by_cases h5 : x.f4 > 65536
            · simp [h3, h4, h5]
            · by_cases h6 : x.f3 > x.f4
              · simp [h3, h4, h5, h6]
              · have e2 : wrap64 (x.f4 - x.f3) = x.f4 - x.f3 := by unfold wrap64; omega
                rw [if_neg h3, if_neg h4, if_neg h5, if_neg h6, e2]
                by_cases h7 : x.f4 - x.f3 ≥ P
                · simp [h3, h4, h5, h6, h7]
                · rw [if_neg h7]
                  cases b5 <;> simp [h3, h4, h5, h6, h7]
theorem refcheck_f (P : Int) (le : List S34) (ac : List S36) (k : Nat) (hk : 600 ≤ k) : railplanref11_Check.f k P le ac = some (okNet P le ac) := by
  obtain ⟨k, rfl⟩ : ∃ m, k = m + 1 := ⟨k - 1, by omega⟩
  unfold railplanref11_Check.f okNet
  rw [refin_f]
  simp only [Option.bind_some]
  have hj : railplanref11_Check.j0 (k + 1) true P le ac = some false := by simp [railplanref11_Check.j0]
  by_cases hP : 2 ≤ P ∧ P ≤ 7200
  · rw [if_pos (by simp [hP])]
    by_cases h1 : (le.length : Int) > 48
    · rw [if_pos h1, hj, decide_eq_false (by omega)]
      rfl
    · rw [if_neg h1]
      by_cases h2 : (ac.length : Int) > 512
      · rw [decide_eq_true h2, hj, decide_eq_false (by omega)]
        rfl
      · rw [decide_eq_false h2, decide_eq_true (by omega)]
        simp only [railplanref11_Check.j0]
        rw [if_neg (by simp)]
        have := refcheck_l0 P le ac (by omega) (by omega) ac.length 0 k (by omega) (by omega)
        rw [List.drop_zero] at this
        simpa using this
  · rw [if_neg (by simp; omega), hj, decide_eq_false (by omega)]
    rfl
/-- Times within a period. -/
def InP (P : Int) (ts : List Int) : Prop := ∀ i, 0 ≤ i → i < (ts.length : Int) → 0 ≤ rd ts i ∧ rd ts i ≤ P - 1
theorem refgood_l0 (P : Int) (le : List S34) (ac : List S36) (ts : List Int) (hP : 2 ≤ P ∧ P ≤ 7200) (hts : InP P ts) (hl : ts.length ≤ 48) : ∀ (d i k : Nat), i + d = ts.length → d < k → railplanref11_Good.l0 k ts (i : Int) P le ac = some true
  | 0, i, k, hi, hk => by
    obtain ⟨k, rfl⟩ : ∃ m, k = m + 1 := ⟨k - 1, by omega⟩
    simp only [railplanref11_Good.l0]
    rw [if_neg (by omega)]
  | d + 1, i, k, hi, hk => by
    obtain ⟨k, rfl⟩ : ∃ m, k = m + 1 := ⟨k - 1, by omega⟩
    have ih := refgood_l0 P le ac ts hP hts hl d (i + 1) k (by omega) (by omega)
    simp only [railplanref11_Good.l0]
    have h0 := hts (i : Int) (by omega) (by omega)
    have e0 : wrap64 (P - 1) = P - 1 := by unfold wrap64; omega
    rw [if_pos (by omega), if_pos (by omega), refin_f, e0, wrap_succ i (by omega), ih]
    simp [h0]
theorem refgood_f (P : Int) (le : List S34) (ac : List S36) (ts : List Int) (k : Nat) (hk : 600 ≤ k) (hok : okNet P le ac = true) (hl : ts.length = le.length) (hts : InP P ts) : railplanref11_Good.f k P le ac ts = some true := by
  obtain ⟨hP, hle, _, _⟩ := okNet_good hok
  obtain ⟨k, rfl⟩ : ∃ m, k = m + 1 := ⟨k - 1, by omega⟩
  unfold railplanref11_Good.f
  rw [refcheck_f P le ac _ hk, hok]
  simp only [Option.bind_some, if_true, railplanref11_Good.j0]
  rw [if_neg (by simp [hl])]
  have := refgood_l0 P le ac ts hP hts (by omega) ts.length 0 k (by omega) (by omega)
  simpa using this
theorem wrap_id (a : Int) (h : -9000000000000000000 ≤ a) (h' : a ≤ 9000000000000000000) : wrap64 a = a := by unfold wrap64; omega
theorem term_bd (x d : Int) (q5 : 0 ≤ x) (q5' : x ≤ 1048576) (h : -65536 ≤ d) (h' : d ≤ 72736) : -80000000000 ≤ x * d ∧ x * d ≤ 80000000000 := by
  have h1 : x * d ≤ 1048576 * 72736 := by
    rcases Int.lt_or_le d 0 with hd | hd
    · have : x * d ≤ 0 := Int.mul_nonpos_of_nonneg_of_nonpos q5 (by omega)
      omega
    · exact Int.mul_le_mul q5' h' hd (by omega)
  have h2 : x * (-d) ≤ 1048576 * 65536 := by
    rcases Int.lt_or_le (-d) 0 with hd | hd
    · have : x * (-d) ≤ 0 := Int.mul_nonpos_of_nonneg_of_nonpos q5 (by omega)
      omega
    · exact Int.mul_le_mul q5' (by omega) hd (by omega)
  rw [Int.mul_neg] at h2
  omega
theorem step_bd (s t i : Int) (h1 : -80000000000 * i ≤ s) (h2 : s ≤ 80000000000 * i) (h3 : -80000000000 ≤ t) (h4 : t ≤ 80000000000) (hi : i ≤ 512) (h0 : 0 ≤ i) : (-9000000000000000000 ≤ s + t ∧ s + t ≤ 9000000000000000000) ∧ -80000000000 * (i + 1) ≤ s + t ∧ s + t ≤ 80000000000 * (i + 1) := by omega
/-- The weighted durations. -/
def costL (P : Int) (ts : List Int) : List S36 → Int → Int
  | [], s => s
  | a :: al, s => costL P ts al (s + a.f5 * lastsF P a (rd ts a.f1) (rd ts a.f2))
set_option maxRecDepth 100000 in
theorem refcost_l0 (P : Int) (le : List S34) (ac : List S36) (ts : List Int) (hP : 2 ≤ P ∧ P ≤ 7200) (hts : InP P ts) (hlen : ac.length ≤ 512) (hgood : ∀ a ∈ ac, GoodAct P ts.length a) : ∀ (d i k : Nat) (s : Int), i + d = ac.length → d < k → (-80000000000 * (i : Int) ≤ s ∧ s ≤ 80000000000 * (i : Int)) → railplanref11_Cost.l0 k ts s (i : Int) P le ac = some (costL P ts (ac.drop i) s, 0)
  | 0, i, k, s, hi, hk, hs => by
    obtain ⟨k, rfl⟩ : ∃ m, k = m + 1 := ⟨k - 1, by omega⟩
    simp only [railplanref11_Cost.l0]
    rw [if_neg (by omega), List.drop_of_length_le (by omega)]
    rfl
  | d + 1, i, k, s, hi, hk, hs => by
    obtain ⟨k, rfl⟩ : ∃ m, k = m + 1 := ⟨k - 1, by omega⟩
    have hga := hgood _ (rd36' ac (i : Int) (by omega) (by omega))
    have hlf := reflasts_f P le ac ts _ hP hga (fun i h0 h1 => ⟨(hts i h0 h1).1, by have := (hts i h0 h1).2; omega⟩)
    have ih := fun s hs => refcost_l0 P le ac ts hP hts hlen hgood d (i + 1) k s (by omega) (by omega) hs
    simp only [railplanref11_Cost.l0]
    rw [if_pos (by omega), if_pos (by omega), hlf, rd36d ac i (by omega)]
    simp only [Option.bind_some, costL]
    generalize rd_T36 ac (i : Int) = x at *
    obtain ⟨⟨q1, q1'⟩, ⟨q2, q2'⟩, ⟨q3, q3'⟩, ⟨q4, q4'⟩, q5, q5'⟩ := hga
    have hd0 : x.f3 ≤ lastsF P x (rd ts x.f1) (rd ts x.f2) ∧ lastsF P x (rd ts x.f1) (rd ts x.f2) < x.f3 + P := by
      have h1 := Int.emod_nonneg (rd ts x.f2 - rd ts x.f1 - x.f3) (show P ≠ 0 by omega)
      have h2 := Int.emod_lt_of_pos (rd ts x.f2 - rd ts x.f1 - x.f3) (show 0 < P by omega)
      unfold lastsF
      omega
    generalize lastsF P x (rd ts x.f1) (rd ts x.f2) = dd at *
    have ht := term_bd x.f5 dd q5 q5' (by omega) (by omega)
    have hst := step_bd s (x.f5 * dd) (i : Int) hs.1 hs.2 ht.1 ht.2 (by omega) (by omega)
    have e2 : wrap64 (x.f5 * dd) = x.f5 * dd := wrap_id _ (by omega) (by omega)
    have e3 : wrap64 (s + x.f5 * dd) = s + x.f5 * dd := wrap_id _ hst.1.1 hst.1.2
    rw [wrap_succ i (by omega), e2, e3]
    exact ih _ (by rw [show ((i + 1 : Nat) : Int) = (i : Int) + 1 from rfl]; exact hst.2)
theorem refcost_f (P : Int) (le : List S34) (ac : List S36) (ts : List Int) (k : Nat) (hk : 600 ≤ k) (hok : okNet P le ac = true) (hl : ts.length = le.length) (hts : InP P ts) : railplanref11_Cost.f k P le ac ts = some (costL P ts ac 0, 0) := by
  obtain ⟨hP, hle, hac, hgood⟩ := okNet_good hok
  unfold railplanref11_Cost.f
  rw [refgood_f P le ac ts k hk hok hl hts]
  simp only [Option.bind_some, if_true]
  have := refcost_l0 P le ac ts hP hts hac (by rw [hl]; exact hgood) ac.length 0 k 0 (by omega) (by omega) (by omega)
  simpa using this
theorem InP.le {P : Int} {ts : List Int} (h : InP P ts) (hP : P ≤ 7200) : ∀ i, 0 ≤ i → i < (ts.length : Int) → 0 ≤ rd ts i ∧ rd ts i ≤ 7200 := fun i h0 h1 => by have := h i h0 h1; omega
theorem InP.set {P : Int} {ts : List Int} (h : InP P ts) {ev : Nat} {t : Int} (hev : ev < ts.length) (h0 : 0 ≤ t) (h1 : t ≤ P - 1) : InP P (ts.set ev t) := by
  intro i hi0 hi1
  rw [List.length_set] at hi1
  rw [rd_set _ _ _ _ hev hi0 hi1]
  split
  · exact ⟨h0, h1⟩
  · exact h i hi0 hi1
theorem wrapI (a : Int) (h : -9000000000000000000 ≤ a) (h' : a ≤ 9000000000000000000) : wrap64 a = a := by unfold wrap64; omega
theorem u64_wrap_pos (a : Int) (h : 0 ≤ a) (h' : a ≤ 9000000000000000000) : IntKind.u64.wrap a = a := by
  simp only [IntKind.wrap]
  simp [IntKind.signed, IntKind.bits]
  omega
theorem u64_wrap_rng (a : Int) : 0 ≤ IntKind.u64.wrap a ∧ IntKind.u64.wrap a < 18446744073709551616 := by
  simp only [IntKind.wrap]
  simp [IntKind.signed, IntKind.bits]
  omega
theorem pick_spec (v n : Int) (h : 1 ≤ n) (h' : n ≤ 1000000000) : ∃ r, railplankeep_Pick.f v n = some r ∧ 0 ≤ r ∧ r < n := by
  unfold railplankeep_Pick.f
  rw [u64_wrap_pos n (by omega) (by omega), if_neg (by omega)]
  obtain ⟨h1, h2⟩ := u64_wrap_rng v
  generalize IntKind.u64.wrap v = x at *
  have e := Int.tmod_eq_emod_of_nonneg (b := n) h1
  have h3 := Int.emod_nonneg x (show n ≠ 0 by omega)
  have h4 := Int.emod_lt_of_pos x (show 0 < n by omega)
  exact ⟨_, rfl, by rw [e, wrapI _ (by omega) (by omega)]; exact h3, by rw [e, wrapI _ (by omega) (by omega)]; exact h4⟩
theorem next_spec (l : List Int) (i n : Int) (hl : l.length ≤ 140737488351232) (hi : 0 ≤ i ∧ i ≤ (l.length : Int)) (h : 1 ≤ n) (h' : n ≤ 1000000000) : ∃ v j, railplankeep_Source_Next.f l i n = some (v, j) ∧ (0 ≤ v ∧ v < n) ∧ 0 ≤ j ∧ j ≤ (l.length : Int) := by
  unfold railplankeep_Source_Next.f
  by_cases hc : i ≥ (l.length : Int)
  · rw [if_pos hc]
    exact ⟨0, i, rfl, by omega, by omega⟩
  · rw [if_neg hc]
    have e1 : wrap64 (i + 1) = i + 1 := wrapI _ (by omega) (by omega)
    have e2 : wrap64 (i + 1 - 1) = i := by rw [wrapI _ (by omega) (by omega)]; omega
    rw [e1, e2, if_pos (by omega), if_pos (by omega)]
    obtain ⟨r, hr, h1, h2⟩ := pick_spec (rd l i) n h h'
    rw [hr]
    exact ⟨r, i + 1, rfl, ⟨h1, h2⟩, by omega, by omega⟩
/-- An activity that Network makes. -/
structure GenAct (P n : Int) (a : S36) : Prop where
  f1 : 0 ≤ a.f1 ∧ a.f1 < n
  f2 : 0 ≤ a.f2 ∧ a.f2 < n
  ne : a.f1 ≠ a.f2
  f3 : -P ≤ a.f3 ∧ a.f3 < 2 * P
  f4 : a.f3 ≤ a.f4 ∧ a.f4 ≤ a.f3 + P - 1
  f5 : 0 ≤ a.f5 ∧ a.f5 ≤ 4
theorem net_l1 (l : List Int) (hl : l.length ≤ 140737488351232) (P m : Int) (ev : List S34) (hP : 2 ≤ P ∧ P ≤ 9) (hm : 1 ≤ m ∧ m ≤ 5) : ∀ (d : Nat) (i : Int) (ac : List S36), d ≤ 8 → ac.length + d ≤ 8 → (0 ≤ i ∧ i ≤ (l.length : Int)) → (∀ a ∈ ac, GenAct P m a) →
    ∃ ac', (∀ k, 2 * d + 3 ≤ k → railplankeep_Network.l1 k m (d : Int) l i P ev ac = some (P, ev, ac')) ∧ ac'.length ≤ ac.length + d ∧ ∀ a ∈ ac', GenAct P m a
  | 0, i, ac, _, _, hi, hg => by
    refine ⟨ac, fun k hk => ?_, Nat.le_refl _, hg⟩
    obtain ⟨k, rfl⟩ : ∃ q, k = q + 2 := ⟨k - 2, by omega⟩
    simp only [railplankeep_Network.l1, railplankeep_Network.j2]
    rw [if_neg (by omega), if_neg (by simp)]
  | d + 1, i, ac, hd, hac, hi, hg => by
    by_cases hm1 : m > 1
    · obtain ⟨v1, i1, e1, b1, hi1⟩ := next_spec l i 6 hl hi (by omega) (by omega)
      obtain ⟨v2, i2, e2, b2, hi2⟩ := next_spec l i1 m hl hi1 (by omega) (by omega)
      obtain ⟨v3, i3, e3, b3, hi3⟩ := next_spec l i2 5 hl hi2 (by omega) (by omega)
      obtain ⟨v4, i4, e4, b4, hi4⟩ := next_spec l i3 (m - 1) hl hi3 (by omega) (by omega)
      obtain ⟨v5, i5, e5, b5, hi5⟩ := next_spec l i4 (3 * P) hl hi4 (by omega) (by omega)
      obtain ⟨v6, i6, e6, b6, hi6⟩ := next_spec l i5 P hl hi5 (by omega) (by omega)
      have w1 : wrap64 (m - 1) = m - 1 := wrapI _ (by omega) (by omega)
      have w2 : wrap64 (3 * P) = 3 * P := wrapI _ (by omega) (by omega)
      have w3 : wrap64 (1 + v1) = 1 + v1 := wrapI _ (by omega) (by omega)
      have w4 : wrap64 (v2 + 1) = v2 + 1 := wrapI _ (by omega) (by omega)
      have w5 : wrap64 (v2 + 1 + v4) = v2 + 1 + v4 := wrapI _ (by omega) (by omega)
      have w6 : wrap64 (v5 - P) = v5 - P := wrapI _ (by omega) (by omega)
      have w7 : wrap64 (v5 - P + v6) = v5 - P + v6 := wrapI _ (by omega) (by omega)
      have w8 : wrap64 (((d + 1 : Nat) : Int) - 1) = (d : Int) := by rw [wrapI _ (by omega) (by omega)]; omega
      have t1 : Int.tmod (v2 + 1 + v4) m = (v2 + 1 + v4) % m := Int.tmod_eq_emod_of_nonneg (by omega)
      have t2 := Int.emod_nonneg (v2 + 1 + v4) (show m ≠ 0 by omega)
      have t3 := Int.emod_lt_of_pos (v2 + 1 + v4) (show 0 < m by omega)
      have t4 : (v2 + 1 + v4) % m ≠ v2 := by
        by_cases hq : v2 + 1 + v4 < m
        · rw [Int.emod_eq_of_lt (by omega) hq]; omega
        · have : (v2 + 1 + v4) % m = v2 + 1 + v4 - m := by
            rw [← Int.sub_emod_right]
            exact Int.emod_eq_of_lt (by omega) (by omega)
          omega
      obtain ⟨ac', h1, h2, h3⟩ := net_l1 l hl P m ev hP hm d i6 (ac ++ [⟨1 + v1, v2, (v2 + 1 + v4) % m, v5 - P, v5 - P + v6, v3⟩]) (by omega) (by simp; omega) hi6 (by
        intro a ha
        rcases List.mem_append.1 ha with h | h
        · exact hg a h
        · rw [List.mem_singleton.1 h]
          exact ⟨by show 0 ≤ v2 ∧ v2 < m; omega, ⟨t2, t3⟩, fun h => t4 h.symm, by show -P ≤ v5 - P ∧ v5 - P < 2 * P; omega, by show v5 - P ≤ v5 - P + v6 ∧ v5 - P + v6 ≤ v5 - P + P - 1; omega, by show 0 ≤ v3 ∧ v3 ≤ 4; omega⟩)
      refine ⟨ac', fun k hk => ?_, by simp at h2; omega, h3⟩
      obtain ⟨k, rfl⟩ : ∃ q, k = q + 2 := ⟨k - 2, by omega⟩
      simp only [railplankeep_Network.l1, railplankeep_Network.j2]
      rw [if_pos (by omega), if_pos (decide_eq_true hm1), e1, Option.bind_some, e2, Option.bind_some, e3, Option.bind_some, w1, e4, Option.bind_some, if_neg (by omega), w2, e5, Option.bind_some, e6, Option.bind_some, if_pos (by omega), w3, w4, w5, w6, w7, w8, t1]
      exact h1 k (by omega)
    · refine ⟨ac, fun k hk => ?_, by omega, hg⟩
      obtain ⟨k, rfl⟩ : ∃ q, k = q + 2 := ⟨k - 2, by omega⟩
      simp only [railplankeep_Network.l1, railplankeep_Network.j2]
      rw [if_pos (by omega), if_neg (by simp; omega)]
theorem net_l0 (l : List Int) (hl : l.length ≤ 140737488351232) (P : Int) (hP : 2 ≤ P ∧ P ≤ 9) : ∀ (d : Nat) (i : Int) (ev : List S34), d ≤ 5 → 1 ≤ d + ev.length → d + ev.length ≤ 5 → (0 ≤ i ∧ i ≤ (l.length : Int)) →
    ∃ ev' ac', (∀ k, d + 30 ≤ k → railplankeep_Network.l0 k (d : Int) l i P ev = some (P, ev', ac')) ∧ (1 ≤ ev'.length ∧ ev'.length ≤ 5) ∧ ac'.length ≤ 8 ∧ ∀ a ∈ ac', GenAct P (ev'.length : Int) a
  | 0, i, ev, _, hn, hn2, hi => by
    obtain ⟨v, j, e, b, hj⟩ := next_spec l i 9 hl hi (by omega) (by omega)
    obtain ⟨ac', h1, h2, h3⟩ := net_l1 l hl P (ev.length : Int) ev hP (by omega) v.toNat j [] (by omega) (by simp; omega) hj (by simp)
    refine ⟨ev, ac', fun k hk => ?_, by omega, by simp at h2; omega, h3⟩
    obtain ⟨k, rfl⟩ : ∃ q, k = q + 1 := ⟨k - 1, by omega⟩
    simp only [railplankeep_Network.l0]
    rw [if_neg (by omega), e, Option.bind_some]
    have := h1 k (by omega)
    rwa [show ((v.toNat : Nat) : Int) = v by omega] at this
  | d + 1, i, ev, hd, hn, hn2, hi => by
    obtain ⟨v1, i1, e1, b1, hi1⟩ := next_spec l i 2 hl hi (by omega) (by omega)
    obtain ⟨v2, i2, e2, b2, hi2⟩ := next_spec l i1 3 hl hi1 (by omega) (by omega)
    obtain ⟨v3, i3, e3, b3, hi3⟩ := next_spec l i2 3 hl hi2 (by omega) (by omega)
    have w8 : wrap64 (((d + 1 : Nat) : Int) - 1) = (d : Int) := by rw [wrapI _ (by omega) (by omega)]; omega
    obtain ⟨ev', ac', h1, h2, h3, h4⟩ := net_l0 l hl P hP d i3 (ev ++ [⟨wrap64 (1 + v1), v2, v3⟩]) (by omega) (by simp; omega) (by simp; omega) hi3
    refine ⟨ev', ac', fun k hk => ?_, h2, h3, h4⟩
    obtain ⟨k, rfl⟩ : ∃ q, k = q + 1 := ⟨k - 1, by omega⟩
    simp only [railplankeep_Network.l0]
    rw [if_pos (by omega), e1, Option.bind_some, e2, Option.bind_some, e3, Option.bind_some, if_pos (by omega), w8]
    exact h1 k (by omega)
/-- What Network makes. -/
theorem network_spec (l : List Int) (hl : l.length ≤ 140737488351232) : ∃ P ev ac, (∀ k, 40 ≤ k → railplankeep_Network.f k l = some (P, ev, ac)) ∧ (2 ≤ P ∧ P ≤ 9) ∧ (1 ≤ ev.length ∧ ev.length ≤ 5) ∧ ac.length ≤ 8 ∧ ∀ a ∈ ac, GenAct P (ev.length : Int) a := by
  obtain ⟨v1, i1, e1, b1, hi1⟩ := next_spec l 0 8 hl (by omega) (by omega) (by omega)
  obtain ⟨v2, i2, e2, b2, hi2⟩ := next_spec l i1 5 hl hi1 (by omega) (by omega)
  have w1 : wrap64 (2 + v1) = 2 + v1 := wrapI _ (by omega) (by omega)
  have w2 : wrap64 (1 + v2) = 1 + v2 := wrapI _ (by omega) (by omega)
  obtain ⟨ev, ac, h1, h2, h3, h4⟩ := net_l0 l hl (2 + v1) (by omega) (1 + v2).toNat i2 [] (by omega) (by simp; omega) (by simp; omega) hi2
  refine ⟨2 + v1, ev, ac, fun k hk => ?_, by omega, h2, h3, h4⟩
  unfold railplankeep_Network.f railplankeep_From.f
  simp only [Option.bind_some]
  rw [e1, Option.bind_some, e2, Option.bind_some, w1, w2]
  have := h1 k (by omega)
  rwa [show (((1 + v2).toNat : Nat) : Int) = 1 + v2 by omega] at this
theorem genAct_slack {P n : Int} {a : S36} (hP : 2 ≤ P ∧ P ≤ 9) (h : GenAct P n a) : GenAct P n (slackAct P a) := by
  obtain ⟨h1, h2, h3, h4, h5, h6⟩ := h
  refine ⟨h1, h2, h3, h4, ?_, h6⟩
  show a.f3 ≤ mn (a.f4 + P / 2) (a.f3 + P - 1) ∧ mn (a.f4 + P / 2) (a.f3 + P - 1) ≤ a.f3 + P - 1
  unfold mn
  split <;> omega
/-- What Slack makes. -/
theorem slack_spec (l : List Int) (hl : l.length ≤ 140737488351232) : ∃ P ev ac, (∀ k, 40 ≤ k → railplankeep_Slack.f k l = some (P, ev, ac)) ∧ (2 ≤ P ∧ P ≤ 9) ∧ (1 ≤ ev.length ∧ ev.length ≤ 5) ∧ ac.length ≤ 8 ∧ ∀ a ∈ ac, GenAct P (ev.length : Int) a := by
  obtain ⟨P, ev, ac, h1, h2, h3, h4, h5⟩ := network_spec l hl
  refine ⟨P, ev, ac.map (slackAct P), fun k hk => ?_, h2, h3, by rw [List.length_map]; exact h4, fun a ha => ?_⟩
  · unfold railplankeep_Slack.f
    rw [h1 k hk, Option.bind_some]
    have : slackOk P ac = true := by
      unfold slackOk
      rw [Bool.and_eq_true, decide_eq_true_eq, List.all_eq_true]
      refine ⟨by omega, fun a ha => ?_⟩
      obtain ⟨_, _, _, q4, q5, _⟩ := h5 a ha
      exact decide_eq_true (by omega)
    show (if slackOk P ac = true then some (P, ev, ac.map (slackAct P)) else none) = _
    rw [if_pos this]
  · obtain ⟨b, hb, rfl⟩ := List.mem_map.1 ha
    exact genAct_slack h2 (h5 b hb)
theorem genAct_bad {P n : Int} {a : S36} (hP : 2 ≤ P ∧ P ≤ 9) (h : GenAct P n a) : badAct P (n - 1) a = false := by
  obtain ⟨h1, h2, h3, h4, h5, h6⟩ := h
  unfold badAct
  simp
  omega
theorem gen_ok {P : Int} {ev : List S34} {ac : List S36} (hP : 2 ≤ P ∧ P ≤ 9) (he : ev.length ≤ 5) (ha : ac.length ≤ 8) (hg : ∀ a ∈ ac, GenAct P (ev.length : Int) a) : okNet P ev ac = true := by
  unfold okNet
  rw [Bool.and_eq_true, decide_eq_true_eq]
  refine ⟨by omega, ?_⟩
  cases h : ac.any (badAct P ((ev.length : Int) - 1)) with
  | false => rfl
  | true =>
    obtain ⟨a, ham, hb⟩ := List.any_eq_true.1 h
    rw [genAct_bad hP (hg a ham)] at hb
    exact absurd hb (by simp)
/-- Times satisfy all activities. -/
def feasB (P : Int) (ac : List S36) (ts : List Int) : Bool := ac.all (fun a => decide (lastsF P a (rd ts a.f1) (rd ts a.f2) ≤ a.f4))
theorem reffirst_l0 (P : Int) (le : List S34) (ac : List S36) (ts : List Int) (hP : 2 ≤ P ∧ P ≤ 7200) (hts : InP P ts) (hlen : ac.length ≤ 512) (hgood : ∀ a ∈ ac, GoodAct P ts.length a) : ∀ (d i k : Nat), i + d = ac.length → d < k → ∃ x, railplanref11_First.l0 k ts (i : Int) P le ac = some (x, !feasB P (ac.drop i) ts)
  | 0, i, k, hi, hk => by
    obtain ⟨k, rfl⟩ : ∃ m, k = m + 1 := ⟨k - 1, by omega⟩
    simp only [railplanref11_First.l0]
    rw [if_neg (by omega), List.drop_of_length_le (by omega)]
    exact ⟨0, rfl⟩
  | d + 1, i, k, hi, hk => by
    obtain ⟨k, rfl⟩ : ∃ m, k = m + 1 := ⟨k - 1, by omega⟩
    have hga := hgood _ (rd36' ac (i : Int) (by omega) (by omega))
    have hlf := reflasts_f P le ac ts _ hP hga (hts.le (by omega))
    obtain ⟨x, ih⟩ := reffirst_l0 P le ac ts hP hts hlen hgood d (i + 1) k (by omega) (by omega)
    simp only [railplanref11_First.l0]
    rw [if_pos (by omega), if_pos (by omega), hlf, rd36d ac i (by omega)]
    simp only [Option.bind_some, feasB, List.all_cons]
    by_cases hc : lastsF P (rd_T36 ac (i : Int)) (rd ts (rd_T36 ac (i : Int)).f1) (rd ts (rd_T36 ac (i : Int)).f2) > (rd_T36 ac (i : Int)).f4
    · rw [if_pos hc, decide_eq_false (by omega)]
      exact ⟨_, rfl⟩
    · rw [if_neg hc, decide_eq_true (by omega), wrap_succ i (by omega), ih]
      exact ⟨x, rfl⟩
theorem reffeas_f (P : Int) (le : List S34) (ac : List S36) (ts : List Int) (k : Nat) (hk : 600 ≤ k) (hok : okNet P le ac = true) (hl : ts.length = le.length) (hts : InP P ts) : railplanref11_Feasible.f k P le ac ts = some (feasB P ac ts) := by
  obtain ⟨hP, hle, hac, hgood⟩ := okNet_good hok
  have hg := refgood_f P le ac ts k hk hok hl hts
  obtain ⟨x, hx⟩ := reffirst_l0 P le ac ts hP hts hac (by rw [hl]; exact hgood) ac.length 0 k (by omega) (by omega)
  have hf : railplanref11_First.f k P le ac ts = some (x, !feasB P ac ts) := by
    unfold railplanref11_First.f
    rw [hg]
    simpa using hx
  unfold railplanref11_Feasible.f
  rw [hf, Option.bind_some, hg, Option.bind_some]
  simp
theorem obind {α β : Type} (a : α) (f : α → Option β) : (some a).bind f = f a := by cases h : f a <;> simp [h]
theorem times_l0 (P : Int) (le : List S34) (ac : List S36) (l : List Int) (hl : l.length ≤ 140737488351232) (hP : 2 ≤ P ∧ P ≤ 1000000) (n : Nat) (hn : n ≤ 1000) : ∀ (d i : Nat) (j : Int) (ts : List Int), i + d = n → ts.length = n → (0 ≤ j ∧ j ≤ (l.length : Int)) → (∀ q, 0 ≤ q → q < (ts.length : Int) → 0 ≤ rd ts q ∧ rd ts q ≤ P - 1) →
    ∃ ts', (∀ k, d < k → railplankeep_Times.l0 k ts (n : Int) (i : Int) P le ac l j = some ts') ∧ ts'.length = n ∧ InP P ts'
  | 0, i, j, ts, hi, ht, hj, hts => by
    refine ⟨ts, fun k hk => ?_, ht, hts⟩
    obtain ⟨k, rfl⟩ : ∃ m, k = m + 1 := ⟨k - 1, by omega⟩
    simp only [railplankeep_Times.l0]
    rw [if_neg (by omega)]
  | d + 1, i, j, ts, hi, ht, hj, hts => by
    obtain ⟨v, j', e, b, hj'⟩ := next_spec l j P hl hj (by omega) (by omega)
    obtain ⟨ts', h1, h2, h3⟩ := times_l0 P le ac l hl hP n hn d (i + 1) j' (ts.set i v) (by omega) (by rw [List.length_set]; exact ht) hj' (InP.set (P := P) hts (by omega) (by omega) (by omega))
    refine ⟨ts', fun k hk => ?_, h2, h3⟩
    obtain ⟨k, rfl⟩ : ∃ m, k = m + 1 := ⟨k - 1, by omega⟩
    simp only [railplankeep_Times.l0]
    rw [if_pos (by omega), e, Option.bind_some, if_pos (by omega), if_pos (by omega), wrap_succ i (by omega), Int.toNat_natCast]
    exact h1 k (by omega)
theorem times_spec (P : Int) (le : List S34) (ac : List S36) (l : List Int) (hl : l.length ≤ 140737488351232) (hP : 2 ≤ P ∧ P ≤ 1000000) (hn : le.length ≤ 1000) : ∃ ts, (∀ k, le.length < k → railplankeep_Times.f k P le ac l = some ts) ∧ ts.length = le.length ∧ InP P ts := by
  obtain ⟨ts, h1, h2, h3⟩ := times_l0 P le ac l hl hP le.length hn le.length 0 0 (List.replicate le.length 0) (by omega) List.length_replicate (by omega) (by
    intro q h0 h1
    have : rd (List.replicate le.length 0) q = 0 := by
      unfold rd
      rw [List.getD_eq_getElem?_getD, List.getElem?_replicate]
      split <;> rfl
    omega)
  refine ⟨ts, fun k hk => ?_, h2, h3⟩
  unfold railplankeep_Times.f railplankeep_From.f
  have hb : ((le.length : Int)).toNat ≤ 35184372088832 := by rw [Int.toNat_natCast]; omega
  rw [obind, if_pos (by omega), if_pos hb, obind, Int.toNat_natCast, List.length_replicate]
  exact h1 k hk
/-- Ascending numbers below m. -/
structure Asc (m : Int) (s : List Int) : Prop where
  asc : s.Pairwise (· < ·)
  rng : ∀ x ∈ s, 0 ≤ x ∧ x < m
theorem rdI' (l : List Int) (k : Nat) (h : k < l.length) : rd l (k : Int) = l[k] := by
  unfold rd
  rw [Int.toNat_natCast, List.getD_eq_getElem?_getD, List.getElem?_eq_getElem h]
  rfl
theorem Asc.len : ∀ {s : List Int} {m : Int} (_ : Asc m s), 0 ≤ m → (s.length : Int) ≤ m := by
  have key : ∀ (r : List Int) (m : Int), Asc m r.reverse → 0 ≤ m → (r.length : Int) ≤ m := by
    intro r
    induction r with
    | nil => intro m _ h; simpa using h
    | cons x r ih =>
      intro m h hm
      rw [List.reverse_cons] at h
      have hx := h.rng x (by simp)
      have h2 : Asc x r.reverse := ⟨(List.pairwise_append.1 h.asc).1, fun y hy => ⟨(h.rng y (List.mem_append_left _ hy)).1, (List.pairwise_append.1 h.asc).2.2 y hy x (by simp)⟩⟩
      have := ih x h2 hx.1
      simp
      omega
  intro s m h hm
  have := key s.reverse m (by rwa [List.reverse_reverse]) hm
  rwa [List.length_reverse] at this
theorem Asc.snoc {m : Int} {s : List Int} (h : Asc m s) (hm : 0 ≤ m) : Asc (m + 1) (s ++ [m]) :=
  ⟨List.pairwise_append.2 ⟨h.asc, by simp, fun a ha b hb => by rw [List.mem_singleton.1 hb]; exact (h.rng a ha).2⟩, fun x hx => by
    rcases List.mem_append.1 hx with h1 | h1
    · have := h.rng x h1; omega
    · rw [List.mem_singleton.1 h1]; omega⟩
theorem Asc.wide {m m' : Int} {s : List Int} (h : Asc m s) (hm : m ≤ m') : Asc m' s := ⟨h.asc, fun x hx => by have := h.rng x hx; omega⟩
end Go.Proofs.Ytlmlkedcinobiaa.NetMath
