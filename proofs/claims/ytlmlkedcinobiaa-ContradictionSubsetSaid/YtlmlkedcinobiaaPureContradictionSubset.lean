/- Subset keeps the period, the events and the chosen activities, and its feasible times include those of the network. -/
import Derived.Test.YtlmlkedcinobiaaXAllx27
import Derived.Test.YtlmlkedcinobiaaNetMath
set_option linter.unusedVariables false
set_option linter.unusedSimpArgs false
namespace Go.Proofs.Ytlmlkedcinobiaa.Pure
open Go.RowKit Go.Proofs.Ytlmlkedcinobiaa.XAll Go.Proofs.YtlmlkedcinobiaaW.PrintWords Go.Proofs.YtlmlkedcinobiaaW.PrintLast Go.Proofs.YtlmlkedcinobiaaW.PrintMore Go.Proofs.Ytlmlkedcinobiaa.NetMath
theorem rising_l0 (m : Int) (s : List Int) (h : Asc m s) (hs : s.length ≤ 1000) : ∀ (d i k : Nat) (last : Int), i + d = s.length → d < k → (∀ j, i ≤ j → (hj : j < s.length) → last < s[j]) → contradiction_rising.l0 k m last s (s.length : Int) (i : Int) = some true
  | 0, i, k, last, hi, hk, hl => by
    obtain ⟨k, rfl⟩ : ∃ m, k = m + 1 := ⟨k - 1, by omega⟩
    simp only [contradiction_rising.l0]
    rw [if_neg (by omega)]
  | d + 1, i, k, last, hi, hk, hl => by
    obtain ⟨k, rfl⟩ : ∃ m, k = m + 1 := ⟨k - 1, by omega⟩
    have hi2 : i < s.length := by omega
    have h1 := hl i (Nat.le_refl _) hi2
    have h2 := h.rng s[i] (List.getElem_mem hi2)
    simp only [contradiction_rising.l0]
    rw [if_pos (by omega), if_pos (by omega), if_pos (by omega), rdI' s i hi2, if_neg (by omega), if_neg (by omega), wrap_succ i (by omega)]
    exact rising_l0 m s h hs d (i + 1) k _ (by omega) (by omega) (fun j hj hj2 => List.pairwise_iff_getElem.1 h.asc i j hi2 hj2 (by omega))
theorem rising_f (m : Int) (s : List Int) (h : Asc m s) (hs : s.length ≤ 1000) (k : Nat) (hk : s.length < k) : contradiction_rising.f k s m = some true := by
  unfold contradiction_rising.f
  exact rising_l0 m s h hs s.length 0 k (-1) (by omega) hk (fun j _ hj => by have := h.rng s[j] (List.getElem_mem hj); omega)
/-- Some activities. -/
def subAc (ac : List S36) (s : List Int) : List S36 := s.map (rd_T36 ac)
theorem subset_l0 (P P' : Int) (le le' : List S34) (ac : List S36) (s : List Int) (h : Asc (ac.length : Int) s) (hs : s.length ≤ 1000) : ∀ (d i k : Nat) (acc : List S36), i + d = s.length → d < k → acc.length = i → contradiction_subset.l0 k s (s.length : Int) (i : Int) P le ac P' le' acc = some (P', le', acc ++ subAc ac (s.drop i))
  | 0, i, k, acc, hi, hk, ha => by
    obtain ⟨k, rfl⟩ : ∃ m, k = m + 1 := ⟨k - 1, by omega⟩
    simp only [contradiction_subset.l0]
    rw [if_neg (by omega), List.drop_of_length_le (by omega)]
    simp [subAc]
  | d + 1, i, k, acc, hi, hk, ha => by
    obtain ⟨k, rfl⟩ : ∃ m, k = m + 1 := ⟨k - 1, by omega⟩
    have hi2 : i < s.length := by omega
    have h2 := h.rng s[i] (List.getElem_mem hi2)
    have hd : s.drop i = s[i] :: s.drop (i + 1) := List.drop_eq_getElem_cons hi2
    simp only [contradiction_subset.l0]
    rw [if_pos (by omega), if_pos (by omega), if_pos (by omega), rdI' s i hi2, if_pos (by omega), if_pos (by omega), if_pos (by omega), wrap_succ i (by omega), subset_l0 P P' le le' ac s h hs d (i + 1) k _ (by omega) (by omega) (by simp; omega), hd, List.append_assoc]
    rfl
theorem subset_f (P : Int) (le : List S34) (ac : List S36) (s : List Int) (h : Asc (ac.length : Int) s) (hs : s.length ≤ 1000) (hle : le.length ≤ 1000) (k : Nat) (hk : s.length < k) : contradiction_subset.f k P le ac s = some (P, le, subAc ac s) := by
  unfold contradiction_subset.f slices_Clone_railplan_api_Event_railplan_api_Event.f
  have h0 := subset_l0 P P le le ac s h hs s.length 0 k [] (by omega) hk rfl
  rw [if_pos (by omega), Option.bind_some]
  simpa using h0
theorem Subset_f (P : Int) (le : List S34) (ac : List S36) (s : List Int) (hok : okNet P le ac = true) (h : Asc (ac.length : Int) s) (hs : s.length ≤ 1000) (hle : le.length ≤ 1000) (k : Nat) (hk : s.length < k) : contradiction_Subset.f k P le ac s = some (P, le, subAc ac s, 0) := by
  unfold contradiction_Subset.f network_Check.f
  rw [Option.bind_some, hok, if_pos rfl, rising_f _ s h hs k hk, Option.bind_some, if_pos rfl, subset_f P le ac s h hs hle k hk]
  rfl
theorem subAc_mem {ac : List S36} {s : List Int} (h : Asc (ac.length : Int) s) : ∀ a ∈ subAc ac s, a ∈ ac := by
  intro a ha
  obtain ⟨x, hx, rfl⟩ := List.mem_map.1 ha
  have := h.rng x hx
  exact rd36' ac x this.1 this.2
theorem subAc_ok {P : Int} {le : List S34} {ac : List S36} {s : List Int} (hok : okNet P le ac = true) (h : Asc (ac.length : Int) s) : okNet P le (subAc ac s) = true := by
  unfold okNet at hok ⊢
  rw [Bool.and_eq_true, decide_eq_true_eq] at hok ⊢
  have hl := h.len (by omega)
  have hl2 : (subAc ac s).length = s.length := by simp [subAc]
  refine ⟨by omega, ?_⟩
  cases hb : (subAc ac s).any (badAct P ((le.length : Int) - 1)) with
  | false => rfl
  | true =>
    obtain ⟨a, ha, hba⟩ := List.any_eq_true.1 hb
    have : ac.any (badAct P ((le.length : Int) - 1)) = true := List.any_eq_true.2 ⟨a, subAc_mem h a ha, hba⟩
    rw [this] at hok
    exact absurd hok.2 (by simp)
theorem feas_sub {P : Int} {ac : List S36} {s ts : List Int} (h : Asc (ac.length : Int) s) (hf : feasB P ac ts = true) : feasB P (subAc ac s) ts = true := by
  unfold feasB at hf ⊢
  rw [List.all_eq_true] at hf ⊢
  exact fun a ha => hf a (subAc_mem h a ha)
theorem events_l0 (l : List S34) (hl : l.length ≤ 1000) : ∀ (d i k : Nat), i + d = l.length → d < k → api_Event_14.l0 k l l (l.length : Int) (i : Int) = some true
  | 0, i, k, hi, hk => by
    obtain ⟨k, rfl⟩ : ∃ m, k = m + 1 := ⟨k - 1, by omega⟩
    simp only [api_Event_14.l0]
    rw [if_neg (by omega)]
  | d + 1, i, k, hi, hk => by
    obtain ⟨k, rfl⟩ : ∃ m, k = m + 1 := ⟨k - 1, by omega⟩
    simp only [api_Event_14.l0]
    rw [if_pos (by omega), if_pos (by omega), if_pos (by omega), if_pos (by omega), if_neg (by simp), wrap_succ i (by omega)]
    exact events_l0 l hl d (i + 1) k (by omega) (by omega)
theorem events_f (l : List S34) (hl : l.length ≤ 1000) (k : Nat) (hk : l.length < k) : api_Event_14.f k l l = some true := by
  unfold api_Event_14.f
  rw [if_pos rfl]
  exact events_l0 l hl l.length 0 k (by omega) hk
theorem law_l0 (l1 : List Int) (a2 P : Int) (ev : List S34) (ac : List S36) (hac : ac.length ≤ 8) : ∀ (d i : Nat) (s : List Int), i + d = ac.length → Asc (i : Int) s → ∃ s', Asc (ac.length : Int) s' ∧ ∀ k, railplanlaw18_ContradictionSubset.l0 (k + d) l1 a2 s (ac.length : Int) (i : Int) P ev ac = railplanlaw18_ContradictionSubset.l0 k l1 a2 s' (ac.length : Int) (ac.length : Int) P ev ac
  | 0, i, s, hi, h => by
    obtain rfl : i = ac.length := by omega
    exact ⟨s, h, fun k => rfl⟩
  | d + 1, i, s, hi, h => by
    have hl := h.len (by omega)
    have e2 : ((i : Int) + 1) = ((i + 1 : Nat) : Int) := by omega
    by_cases hb : (Go.bits .and .i64 (shr .i64 a2 (IntKind.u64.wrap (i : Int))) 1) = 1
    · obtain ⟨s', h1, h2⟩ := law_l0 l1 a2 P ev ac hac d (i + 1) (s ++ [(i : Int)]) (by omega) (by rw [← e2]; exact h.snoc (by omega))
      refine ⟨s', h1, fun k => ?_⟩
      rw [← h2 k, show k + (d + 1) = (k + d) + 1 from rfl]
      conv => lhs; unfold railplanlaw18_ContradictionSubset.l0
      rw [if_pos (by omega), if_pos (u64_wrap_rng _).1, if_pos hb, if_pos (by omega), wrap_succ i (by omega)]
    · obtain ⟨s', h1, h2⟩ := law_l0 l1 a2 P ev ac hac d (i + 1) s (by omega) (h.wide (by omega))
      refine ⟨s', h1, fun k => ?_⟩
      rw [← h2 k, show k + (d + 1) = (k + d) + 1 from rfl]
      conv => lhs; unfold railplanlaw18_ContradictionSubset.l0
      rw [if_pos (by omega), if_pos (u64_wrap_rng _).1, if_neg hb, wrap_succ i (by omega)]
theorem sub_rd {ac : List S36} {s : List Int} {i : Nat} (h : i < s.length) : rd_T36 (subAc ac s) (i : Int) = rd_T36 ac (rd s (i : Int)) := by
  rw [rdI' s i h]
  unfold subAc
  conv => lhs; unfold rd_T36
  rw [Int.toNat_natCast, List.getD_eq_getElem?_getD, List.getElem?_map, List.getElem?_eq_getElem h]
  rfl
theorem law_l1 (l1 : List Int) (P : Int) (ev : List S34) (ac : List S36) (s : List Int) (h : Asc (ac.length : Int) s) (hs : s.length ≤ 8) : ∀ (d i k : Nat), i + d = s.length → railplanlaw18_ContradictionSubset.l1 (k + d) l1 s (s.length : Int) (i : Int) P ev ac P ev (subAc ac s) = railplanlaw18_ContradictionSubset.l1 k l1 s (s.length : Int) (s.length : Int) P ev ac P ev (subAc ac s)
  | 0, i, k, hi => by
    obtain rfl : i = s.length := by omega
    rfl
  | d + 1, i, k, hi => by
    have hi2 : i < s.length := by omega
    have h2 := h.rng s[i] (List.getElem_mem hi2)
    have hl : (subAc ac s).length = s.length := by simp [subAc]
    rw [← law_l1 l1 P ev ac s h hs d (i + 1) k (by omega), show k + (d + 1) = (k + d) + 1 from rfl]
    conv => lhs; unfold railplanlaw18_ContradictionSubset.l1
    rw [if_pos (by omega), if_pos (by omega), if_pos (by omega), if_pos (by omega), rdI' s i hi2, if_pos (by omega), if_pos (by omega), sub_rd hi2, rdI' s i hi2, if_neg (by simp), wrap_succ i (by omega)]
theorem awake_f (k : Nat) (hk : 20 ≤ k) : railplanlaw18_awake.f k = some true := at_rounds (g := railplanlaw18_awake.f) (fun k => railplanlaw18_awake.mono k) hk (by decide +kernel)
theorem ContradictionSubset_pure (l0 l1 : List Int) (a2 : Int) (h0 : l0.length * 8 ≤ 140737488351232) (h1 : l1.length * 8 ≤ 140737488351232) : ∃ k, railplanlaw18_ContradictionSubset.f k l0 l1 a2 = some true := by
  obtain ⟨P, ev, ac, q1, hP, he, ha, hg⟩ := slack_spec l0 (by omega)
  have hok := gen_ok hP he.2 ha hg
  obtain ⟨s, hs, hl0⟩ := law_l0 l1 a2 P ev ac ha ac.length 0 [] (by omega) ⟨by simp, by simp⟩
  have hsl := hs.len (by omega)
  obtain ⟨ts, t1, t2, t3⟩ := times_spec P ev ac l1 (by omega) (by omega) (by omega)
  suffices hK : ∀ K, 900 ≤ K → railplanlaw18_ContradictionSubset.f (K + 2 + ac.length) l0 l1 a2 = some true from ⟨_, hK 900 (by omega)⟩
  intro K hK
  unfold railplanlaw18_ContradictionSubset.f
  rw [q1 _ (by omega), Option.bind_some]
  show railplanlaw18_ContradictionSubset.l0 (K + 2 + ac.length) l1 a2 [] (ac.length : Int) ((0 : Nat) : Int) P ev ac = some true
  rw [hl0 (K + 2)]
  conv => lhs; unfold railplanlaw18_ContradictionSubset.l0
  rw [if_neg (by omega), Subset_f P ev ac s hok hs (by omega) (by omega) _ (by omega), Option.bind_some]
  show (if (0 : Int) = 0 then _ else _) = _
  rw [if_pos rfl, if_pos rfl, events_f ev (by omega) _ (by omega), Option.bind_some, if_pos rfl]
  have hl : (subAc ac s).length = s.length := by simp [subAc]
  show railplanlaw18_ContradictionSubset.j1 (K + 1) l1 s ((((subAc ac s).length : Int)) != (s.length : Int)) P ev ac P ev (subAc ac s) = _
  rw [hl]
  show (if ((s.length : Int) != (s.length : Int)) = true then some false else railplanlaw18_ContradictionSubset.l1 K l1 s (s.length : Int) ((0 : Nat) : Int) P ev ac P ev (subAc ac s)) = _
  obtain ⟨q, hq⟩ : ∃ q, K = q + 1 + s.length := ⟨K - 1 - s.length, by omega⟩
  rw [if_neg (by simp)]
  have hll := law_l1 l1 P ev ac s hs (by omega) s.length 0 (q + 1) (by omega)
  rw [← hq] at hll
  rw [hll]
  unfold railplanlaw18_ContradictionSubset.l1
  rw [if_neg (by omega), t1 _ (by omega), Option.bind_some, awake_f _ (by omega), Option.bind_some, if_pos rfl, reffeas_f P ev ac ts _ (by omega) hok t2 t3, Option.bind_some]
  by_cases hf : feasB P ac ts = true
  · rw [if_pos hf, reffeas_f P ev (subAc ac s) ts _ (by omega) (subAc_ok hok hs) t2 t3, Option.bind_some, feas_sub hs hf]
  · rw [if_neg hf]
theorem ContradictionSubset : railplanlaw18_ContradictionSubset.Pure := fun l0 l1 a2 _ h0 _ _ h1 _ _ => ContradictionSubset_pure l0 l1 a2 h0 h1
end Go.Proofs.Ytlmlkedcinobiaa.Pure
