/- Plain lemmas on networks: what the makers make, what the reference's tests answer. -/
import Derived.Test.YtpioelilfhkfdaaXAllx20
import Derived.Test.YtpioelilfhkfdaaXAllx10
import Derived.Test.YtpioelilfhkfdaaXAllx23
set_option linter.unusedVariables false
set_option linter.unusedSimpArgs false
namespace Go.Proofs.Ytpioelilfhkfdaa.NetMath
open Go.RowKit Go.Proofs.Ytpioelilfhkfdaa.XAll Go.Proofs.YtpioelilfhkfdaaW.PrintWords Go.Proofs.YtpioelilfhkfdaaW.PrintLast Go.Proofs.YtpioelilfhkfdaaW.PrintMore
theorem wrapI (a : Int) (h : -9000000000000000000 ≤ a) (h' : a ≤ 9000000000000000000) : wrap64 a = a := by unfold wrap64; omega
theorem u64_wrap_pos (a : Int) (h : 0 ≤ a) (h' : a ≤ 9000000000000000000) : IntKind.u64.wrap a = a := by
  simp only [IntKind.wrap]
  simp [IntKind.signed, IntKind.bits]
  omega
theorem u64_wrap_rng (a : Int) : 0 ≤ IntKind.u64.wrap a ∧ IntKind.u64.wrap a < 18446744073709551616 := by
  simp only [IntKind.wrap]
  simp [IntKind.signed, IntKind.bits]
  omega
theorem pick_spec (v n : Int) (h : 1 ≤ n) (h' : n ≤ 1000000000) : ∃ r, railplankeep_Pick.f v n = some r ∧ 0 ≤ r ∧ r < n := by
  unfold railplankeep_Pick.f
  rw [u64_wrap_pos n (by omega) (by omega), if_neg (by omega)]
  obtain ⟨h1, h2⟩ := u64_wrap_rng v
  generalize IntKind.u64.wrap v = x at *
  have e := Int.tmod_eq_emod_of_nonneg (b := n) h1
  have h3 := Int.emod_nonneg x (show n ≠ 0 by omega)
  have h4 := Int.emod_lt_of_pos x (show 0 < n by omega)
  exact ⟨_, rfl, by rw [e, wrapI _ (by omega) (by omega)]; exact h3, by rw [e, wrapI _ (by omega) (by omega)]; exact h4⟩
theorem next_spec (l : List Int) (i n : Int) (hl : l.length ≤ 140737488351232) (hi : 0 ≤ i ∧ i ≤ (l.length : Int)) (h : 1 ≤ n) (h' : n ≤ 1000000000) : ∃ v j, railplankeep_Source_Next.f l i n = some (v, j) ∧ (0 ≤ v ∧ v < n) ∧ 0 ≤ j ∧ j ≤ (l.length : Int) := by
  unfold railplankeep_Source_Next.f
  by_cases hc : i ≥ (l.length : Int)
  · rw [if_pos hc]
    exact ⟨0, i, rfl, by omega, by omega⟩
  · rw [if_neg hc]
    have e1 : wrap64 (i + 1) = i + 1 := wrapI _ (by omega) (by omega)
    have e2 : wrap64 (i + 1 - 1) = i := by rw [wrapI _ (by omega) (by omega)]; omega
    rw [e1, e2, if_pos (by omega), if_pos (by omega)]
    obtain ⟨r, hr, h1, h2⟩ := pick_spec (rd l i) n h h'
    rw [hr]
    exact ⟨r, i + 1, rfl, ⟨h1, h2⟩, by omega, by omega⟩
/-- An activity that Network makes. -/
structure GenAct (P n : Int) (a : S62) : Prop where
  f1 : 0 ≤ a.f1 ∧ a.f1 < n
  f2 : 0 ≤ a.f2 ∧ a.f2 < n
  ne : a.f1 ≠ a.f2
  f3 : -P ≤ a.f3 ∧ a.f3 < 2 * P
  f4 : a.f3 ≤ a.f4 ∧ a.f4 ≤ a.f3 + P - 1
  f5 : 0 ≤ a.f5 ∧ a.f5 ≤ 4
theorem net_l1 (l : List Int) (hl : l.length ≤ 140737488351232) (P m : Int) (ev : List S60) (hP : 2 ≤ P ∧ P ≤ 9) (hm : 1 ≤ m ∧ m ≤ 5) : ∀ (d : Nat) (i : Int) (ac : List S62), d ≤ 8 → ac.length + d ≤ 8 → (0 ≤ i ∧ i ≤ (l.length : Int)) → (∀ a ∈ ac, GenAct P m a) →
    ∃ ac', (∀ k, 2 * d + 3 ≤ k → railplankeep_Network.l1 k m (d : Int) l i P ev ac = some (P, ev, ac')) ∧ ac'.length ≤ ac.length + d ∧ ∀ a ∈ ac', GenAct P m a
  | 0, i, ac, _, _, hi, hg => by
    refine ⟨ac, fun k hk => ?_, Nat.le_refl _, hg⟩
    obtain ⟨k, rfl⟩ : ∃ q, k = q + 2 := ⟨k - 2, by omega⟩
    simp only [railplankeep_Network.l1, railplankeep_Network.j2]
    rw [if_neg (by omega), if_neg (by simp)]
  | d + 1, i, ac, hd, hac, hi, hg => by
    by_cases hm1 : m > 1
    · obtain ⟨v1, i1, e1, b1, hi1⟩ := next_spec l i 6 hl hi (by omega) (by omega)
      obtain ⟨v2, i2, e2, b2, hi2⟩ := next_spec l i1 m hl hi1 (by omega) (by omega)
      obtain ⟨v3, i3, e3, b3, hi3⟩ := next_spec l i2 5 hl hi2 (by omega) (by omega)
      obtain ⟨v4, i4, e4, b4, hi4⟩ := next_spec l i3 (m - 1) hl hi3 (by omega) (by omega)
      obtain ⟨v5, i5, e5, b5, hi5⟩ := next_spec l i4 (3 * P) hl hi4 (by omega) (by omega)
      obtain ⟨v6, i6, e6, b6, hi6⟩ := next_spec l i5 P hl hi5 (by omega) (by omega)
      have w1 : wrap64 (m - 1) = m - 1 := wrapI _ (by omega) (by omega)
      have w2 : wrap64 (3 * P) = 3 * P := wrapI _ (by omega) (by omega)
      have w3 : wrap64 (1 + v1) = 1 + v1 := wrapI _ (by omega) (by omega)
      have w4 : wrap64 (v2 + 1) = v2 + 1 := wrapI _ (by omega) (by omega)
      have w5 : wrap64 (v2 + 1 + v4) = v2 + 1 + v4 := wrapI _ (by omega) (by omega)
      have w6 : wrap64 (v5 - P) = v5 - P := wrapI _ (by omega) (by omega)
      have w7 : wrap64 (v5 - P + v6) = v5 - P + v6 := wrapI _ (by omega) (by omega)
      have w8 : wrap64 (((d + 1 : Nat) : Int) - 1) = (d : Int) := by rw [wrapI _ (by omega) (by omega)]; omega
      have t1 : Int.tmod (v2 + 1 + v4) m = (v2 + 1 + v4) % m := Int.tmod_eq_emod_of_nonneg (by omega)
      have t2 := Int.emod_nonneg (v2 + 1 + v4) (show m ≠ 0 by omega)
      have t3 := Int.emod_lt_of_pos (v2 + 1 + v4) (show 0 < m by omega)
      have t4 : (v2 + 1 + v4) % m ≠ v2 := by
        by_cases hq : v2 + 1 + v4 < m
        · rw [Int.emod_eq_of_lt (by omega) hq]; omega
        · have : (v2 + 1 + v4) % m = v2 + 1 + v4 - m := by
            rw [← Int.sub_emod_right]
            exact Int.emod_eq_of_lt (by omega) (by omega)
          omega
      obtain ⟨ac', h1, h2, h3⟩ := net_l1 l hl P m ev hP hm d i6 (ac ++ [⟨1 + v1, v2, (v2 + 1 + v4) % m, v5 - P, v5 - P + v6, v3⟩]) (by omega) (by simp; omega) hi6 (by
        intro a ha
        rcases List.mem_append.1 ha with h | h
        · exact hg a h
        · rw [List.mem_singleton.1 h]
          exact ⟨by show 0 ≤ v2 ∧ v2 < m; omega, ⟨t2, t3⟩, fun h => t4 h.symm, by show -P ≤ v5 - P ∧ v5 - P < 2 * P; omega, by show v5 - P ≤ v5 - P + v6 ∧ v5 - P + v6 ≤ v5 - P + P - 1; omega, by show 0 ≤ v3 ∧ v3 ≤ 4; omega⟩)
      refine ⟨ac', fun k hk => ?_, by simp at h2; omega, h3⟩
      obtain ⟨k, rfl⟩ : ∃ q, k = q + 2 := ⟨k - 2, by omega⟩
      simp only [railplankeep_Network.l1, railplankeep_Network.j2]
      rw [if_pos (by omega), if_pos (decide_eq_true hm1), e1, Option.bind_some, e2, Option.bind_some, e3, Option.bind_some, w1, e4, Option.bind_some, if_neg (by omega), w2, e5, Option.bind_some, e6, Option.bind_some, if_pos (by omega), w3, w4, w5, w6, w7, w8, t1]
      exact h1 k (by omega)
    · refine ⟨ac, fun k hk => ?_, by omega, hg⟩
      obtain ⟨k, rfl⟩ : ∃ q, k = q + 2 := ⟨k - 2, by omega⟩
      simp only [railplankeep_Network.l1, railplankeep_Network.j2]
      rw [if_pos (by omega), if_neg (by simp; omega)]
theorem net_l0 (l : List Int) (hl : l.length ≤ 140737488351232) (P : Int) (hP : 2 ≤ P ∧ P ≤ 9) : ∀ (d : Nat) (i : Int) (ev : List S60), d ≤ 5 → 1 ≤ d + ev.length → d + ev.length ≤ 5 → (0 ≤ i ∧ i ≤ (l.length : Int)) →
    ∃ ev' ac', (∀ k, d + 30 ≤ k → railplankeep_Network.l0 k (d : Int) l i P ev = some (P, ev', ac')) ∧ (1 ≤ ev'.length ∧ ev'.length ≤ 5) ∧ ac'.length ≤ 8 ∧ ∀ a ∈ ac', GenAct P (ev'.length : Int) a
  | 0, i, ev, _, hn, hn2, hi => by
    obtain ⟨v, j, e, b, hj⟩ := next_spec l i 9 hl hi (by omega) (by omega)
    obtain ⟨ac', h1, h2, h3⟩ := net_l1 l hl P (ev.length : Int) ev hP (by omega) v.toNat j [] (by omega) (by simp; omega) hj (by simp)
    refine ⟨ev, ac', fun k hk => ?_, by omega, by simp at h2; omega, h3⟩
    obtain ⟨k, rfl⟩ : ∃ q, k = q + 1 := ⟨k - 1, by omega⟩
    simp only [railplankeep_Network.l0]
    rw [if_neg (by omega), e, Option.bind_some]
    have := h1 k (by omega)
    rwa [show ((v.toNat : Nat) : Int) = v by omega] at this
  | d + 1, i, ev, hd, hn, hn2, hi => by
    obtain ⟨v1, i1, e1, b1, hi1⟩ := next_spec l i 2 hl hi (by omega) (by omega)
    obtain ⟨v2, i2, e2, b2, hi2⟩ := next_spec l i1 3 hl hi1 (by omega) (by omega)
    obtain ⟨v3, i3, e3, b3, hi3⟩ := next_spec l i2 3 hl hi2 (by omega) (by omega)
    have w8 : wrap64 (((d + 1 : Nat) : Int) - 1) = (d : Int) := by rw [wrapI _ (by omega) (by omega)]; omega
    obtain ⟨ev', ac', h1, h2, h3, h4⟩ := net_l0 l hl P hP d i3 (ev ++ [⟨wrap64 (1 + v1), v2, v3⟩]) (by omega) (by simp; omega) (by simp; omega) hi3
    refine ⟨ev', ac', fun k hk => ?_, h2, h3, h4⟩
    obtain ⟨k, rfl⟩ : ∃ q, k = q + 1 := ⟨k - 1, by omega⟩
    simp only [railplankeep_Network.l0]
    rw [if_pos (by omega), e1, Option.bind_some, e2, Option.bind_some, e3, Option.bind_some, if_pos (by omega), w8]
    exact h1 k (by omega)
/-- What Network makes. -/
theorem network_spec (l : List Int) (hl : l.length ≤ 140737488351232) : ∃ P ev ac, (∀ k, 40 ≤ k → railplankeep_Network.f k l = some (P, ev, ac)) ∧ (2 ≤ P ∧ P ≤ 9) ∧ (1 ≤ ev.length ∧ ev.length ≤ 5) ∧ ac.length ≤ 8 ∧ ∀ a ∈ ac, GenAct P (ev.length : Int) a := by
  obtain ⟨v1, i1, e1, b1, hi1⟩ := next_spec l 0 8 hl (by omega) (by omega) (by omega)
  obtain ⟨v2, i2, e2, b2, hi2⟩ := next_spec l i1 5 hl hi1 (by omega) (by omega)
  have w1 : wrap64 (2 + v1) = 2 + v1 := wrapI _ (by omega) (by omega)
  have w2 : wrap64 (1 + v2) = 1 + v2 := wrapI _ (by omega) (by omega)
  obtain ⟨ev, ac, h1, h2, h3, h4⟩ := net_l0 l hl (2 + v1) (by omega) (1 + v2).toNat i2 [] (by omega) (by simp; omega) (by simp; omega) hi2
  refine ⟨2 + v1, ev, ac, fun k hk => ?_, by omega, h2, h3, h4⟩
  unfold railplankeep_Network.f railplankeep_From.f
  simp only [Option.bind_some]
  rw [e1, Option.bind_some, e2, Option.bind_some, w1, w2]
  have := h1 k (by omega)
  rwa [show (((1 + v2).toNat : Nat) : Int) = 1 + v2 by omega] at this
theorem genAct_slack {P n : Int} {a : S62} (hP : 2 ≤ P ∧ P ≤ 9) (h : GenAct P n a) : GenAct P n (slackAct P a) := by
  obtain ⟨h1, h2, h3, h4, h5, h6⟩ := h
  refine ⟨h1, h2, h3, h4, ?_, h6⟩
  show a.f3 ≤ mn (a.f4 + P / 2) (a.f3 + P - 1) ∧ mn (a.f4 + P / 2) (a.f3 + P - 1) ≤ a.f3 + P - 1
  unfold mn
  split <;> omega
/-- What Slack makes. -/
theorem slack_spec (l : List Int) (hl : l.length ≤ 140737488351232) : ∃ P ev ac, (∀ k, 40 ≤ k → railplankeep_Slack.f k l = some (P, ev, ac)) ∧ (2 ≤ P ∧ P ≤ 9) ∧ (1 ≤ ev.length ∧ ev.length ≤ 5) ∧ ac.length ≤ 8 ∧ ∀ a ∈ ac, GenAct P (ev.length : Int) a := by
  obtain ⟨P, ev, ac, h1, h2, h3, h4, h5⟩ := network_spec l hl
  refine ⟨P, ev, ac.map (slackAct P), fun k hk => ?_, h2, h3, by rw [List.length_map]; exact h4, fun a ha => ?_⟩
  · unfold railplankeep_Slack.f
    rw [h1 k hk, Option.bind_some]
    have : slackOk P ac = true := by
      unfold slackOk
      rw [Bool.and_eq_true, decide_eq_true_eq, List.all_eq_true]
      refine ⟨by omega, fun a ha => ?_⟩
      obtain ⟨_, _, _, q4, q5, _⟩ := h5 a ha
      exact decide_eq_true (by omega)
    show (if slackOk P ac = true then some (P, ev, ac.map (slackAct P)) else none) = _
    rw [if_pos this]
  · obtain ⟨b, hb, rfl⟩ := List.mem_map.1 ha
    exact genAct_slack h2 (h5 b hb)
theorem genAct_bad {P n : Int} {a : S62} (hP : 2 ≤ P ∧ P ≤ 9) (h : GenAct P n a) : badAct P (n - 1) a = false := by
  obtain ⟨h1, h2, h3, h4, h5, h6⟩ := h
  unfold badAct
  simp
  omega
theorem gen_ok {P : Int} {ev : List S60} {ac : List S62} (hP : 2 ≤ P ∧ P ≤ 9) (he : ev.length ≤ 5) (ha : ac.length ≤ 8) (hg : ∀ a ∈ ac, GenAct P (ev.length : Int) a) : okNet P ev ac = true := by
  unfold okNet
  rw [Bool.and_eq_true, decide_eq_true_eq]
  refine ⟨by omega, ?_⟩
  cases h : ac.any (badAct P ((ev.length : Int) - 1)) with
  | false => rfl
  | true =>
    obtain ⟨a, ham, hb⟩ := List.any_eq_true.1 h
    rw [genAct_bad hP (hg a ham)] at hb
    exact absurd hb (by simp)
theorem obind {α β : Type} (a : α) (f : α → Option β) : (some a).bind f = f a := by cases h : f a <;> simp [h]
end Go.Proofs.Ytpioelilfhkfdaa.NetMath
