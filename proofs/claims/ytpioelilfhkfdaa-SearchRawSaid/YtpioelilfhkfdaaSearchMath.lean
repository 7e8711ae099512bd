/- Both searches come to the same: their components tell the same classes, and they go in lock step. -/
import Derived.Test.YtpioelilfhkfdaaXAllx18
import Derived.Test.YtpioelilfhkfdaaXAllx8
import Derived.Test.YtpioelilfhkfdaaXAllx20
import Derived.Test.YtpioelilfhkfdaaXAllx19
import Derived.Test.YtpioelilfhkfdaaXAllx9
import Derived.Test.YtpioelilfhkfdaaXAllx13
import Derived.Test.YtpioelilfhkfdaaNetMath
set_option linter.unusedVariables false
set_option linter.unusedSimpArgs false
namespace Go.Proofs.Ytpioelilfhkfdaa.SearchMath
open Go.RowKit Go.Proofs.Ytpioelilfhkfdaa.XAll Go.Proofs.YtpioelilfhkfdaaW.PrintWords Go.Proofs.YtpioelilfhkfdaaW.PrintLast Go.Proofs.YtpioelilfhkfdaaW.PrintMore Go.Proofs.Ytpioelilfhkfdaa.NetMath
/-- Joining the classes of a and b. -/
def joinK (K : Nat → Nat → Prop) (a b i j : Nat) : Prop := K i j ∨ ((K i a ∨ K i b) ∧ (K j a ∨ K j b))
/-- The relation that some activities' joins make. -/
def kerAll : List S62 → (Nat → Nat → Prop) → (Nat → Nat → Prop)
  | [], K => K
  | a :: al, K => kerAll al (joinK K a.f1.toNat a.f2.toNat)
theorem joinK_congr {n : Nat} {K L : Nat → Nat → Prop} (h : ∀ i j, i < n → j < n → (K i j ↔ L i j)) {a b : Nat} (ha : a < n) (hb : b < n) : ∀ i j, i < n → j < n → (joinK K a b i j ↔ joinK L a b i j) := by
  intro i j hi hj
  unfold joinK
  rw [h i j hi hj, h i a hi ha, h i b hi hb, h j a hj ha, h j b hj hb]
theorem kerAll_congr {n : Nat} : ∀ (al : List S62) {K L : Nat → Nat → Prop}, (∀ a ∈ al, a.f1.toNat < n ∧ a.f2.toNat < n) → (∀ i j, i < n → j < n → (K i j ↔ L i j)) → ∀ i j, i < n → j < n → (kerAll al K i j ↔ kerAll al L i j)
  | [], _, _, _, h => h
  | a :: al, _, _, hg, h => kerAll_congr al (fun b hb => hg b (List.mem_cons_of_mem _ hb)) (joinK_congr h (hg a List.mem_cons_self).1 (hg a List.mem_cons_self).2)
/-- One label put in the place of another. -/
theorem swap_join (l : Nat → Int) (a b : Nat) (p q : Int) (h : (p = l a ∧ q = l b) ∨ (p = l b ∧ q = l a)) (i j : Nat) : ((if l i = p then q else l i) = (if l j = p then q else l j)) ↔ joinK (fun x y => l x = l y) a b i j := by
  show _ ↔ (l i = l j ∨ ((l i = l a ∨ l i = l b) ∧ (l j = l a ∨ l j = l b)))
  by_cases h1 : l i = p
  · rw [if_pos h1]
    by_cases h2 : l j = p
    · rw [if_pos h2]
      exact ⟨fun _ => .inl (by rw [h1, h2]), fun _ => rfl⟩
    · rw [if_neg h2]
      constructor
      · intro h3
        refine .inr ?_
        rcases h with ⟨e1, e2⟩ | ⟨e1, e2⟩
        · exact ⟨.inl (by rw [h1, e1]), .inr (by rw [← h3, e2])⟩
        · exact ⟨.inr (by rw [h1, e1]), .inl (by rw [← h3, e2])⟩
      · intro h3
        rcases h3 with h3 | ⟨_, h3⟩
        · exact absurd (h3.symm.trans h1) h2
        · rcases h with ⟨e1, e2⟩ | ⟨e1, e2⟩
          · rcases h3 with h3 | h3
            · exact absurd (h3.trans e1.symm) h2
            · rw [e2, h3]
          · rcases h3 with h3 | h3
            · rw [e2, h3]
            · exact absurd (h3.trans e1.symm) h2
  · rw [if_neg h1]
    by_cases h2 : l j = p
    · rw [if_pos h2]
      constructor
      · intro h3
        refine .inr ?_
        rcases h with ⟨e1, e2⟩ | ⟨e1, e2⟩
        · exact ⟨.inr (by rw [h3, e2]), .inl (by rw [h2, e1])⟩
        · exact ⟨.inl (by rw [h3, e2]), .inr (by rw [h2, e1])⟩
      · intro h3
        rcases h3 with h3 | ⟨h3, _⟩
        · exact absurd (h3.trans h2) h1
        · rcases h with ⟨e1, e2⟩ | ⟨e1, e2⟩
          · rcases h3 with h3 | h3
            · exact absurd (h3.trans e1.symm) h1
            · rw [e2, h3]
          · rcases h3 with h3 | h3
            · rw [e2, h3]
            · exact absurd (h3.trans e1.symm) h1
    · rw [if_neg h2]
      constructor
      · intro h3; exact .inl h3
      · intro h3
        rcases h3 with h3 | ⟨h3, h4⟩
        · exact h3
        · rcases h with ⟨e1, e2⟩ | ⟨e1, e2⟩
          · rcases h3 with h3 | h3
            · exact absurd (h3.trans e1.symm) h1
            · rcases h4 with h4 | h4
              · exact absurd (h4.trans e1.symm) h2
              · rw [h3, h4]
          · rcases h3 with h3 | h3
            · rcases h4 with h4 | h4
              · rw [h3, h4]
              · exact absurd (h4.trans e1.symm) h2
            · exact absurd (h3.trans e1.symm) h1
/-- A labelling of the union-find's classes by their roots. -/
structure Lab (n : Nat) (g : List Int) (ρ : Nat → Int) : Prop where
  len : g.length = n
  low : ∀ i : Nat, i < n → 0 ≤ rd g (i : Int) ∧ rd g (i : Int) ≤ (i : Int)
  par : ∀ i : Nat, i < n → ρ (rd g (i : Int)).toNat = ρ i
  fix : ∀ i : Nat, i < n → rd g (i : Int) = (i : Int) → ρ i = (i : Int)
  rng : ∀ i : Nat, i < n → 0 ≤ ρ i ∧ ρ i ≤ (i : Int) ∧ ρ (ρ i).toNat = ρ i
theorem find_spec {n : Nat} {ρ : Nat → Int} : ∀ (i k : Nat) (g : List Int), Lab n g ρ → i < n → i < k → ∃ g', cycles_groups_find.l0 k g (i : Int) = some (ρ i, g') ∧ Lab n g' ρ := by
  intro i
  induction i using Nat.strongRecOn with
  | ind i ih =>
    intro k g hL hi hk
    obtain ⟨k, rfl⟩ : ∃ m, k = m + 1 := ⟨k - 1, by omega⟩
    have hlen := hL.len
    have hlow := hL.low i hi
    simp only [cycles_groups_find.l0]
    rw [if_pos (by omega), if_pos (by omega)]
    by_cases hf : rd g (i : Int) = (i : Int)
    · rw [if_pos hf]
      exact ⟨g, by rw [hL.fix i hi hf], hL⟩
    · rw [if_neg hf, if_pos hlow.1, if_pos (by omega), Option.bind_some]
      obtain ⟨j, hj⟩ : ∃ j : Nat, rd g (i : Int) = (j : Int) := ⟨(rd g (i : Int)).toNat, by omega⟩
      have hji : j < i := by omega
      have hlow2 := hL.low j (by omega)
      rw [hj, Int.toNat_natCast]
      have hset : ∀ q : Nat, q < n → rd (g.set i (rd g (j : Int))) (q : Int) = if q = i then rd g (j : Int) else rd g (q : Int) := fun q hq => by
        rw [rd_set g i _ (q : Int) (by omega) (by omega) (by omega)]
        by_cases h : q = i
        · rw [if_pos h, if_pos (by omega)]
        · rw [if_neg h, if_neg (by omega)]
      have hL2 : Lab n (g.set i (rd g (j : Int))) ρ := by
        refine ⟨by rw [List.length_set]; exact hlen, fun q hq => ?_, fun q hq => ?_, fun q hq => ?_, hL.rng⟩
        · rw [hset q hq]
          by_cases h : q = i
          · rw [if_pos h]; omega
          · rw [if_neg h]; exact hL.low q hq
        · rw [hset q hq]
          by_cases h : q = i
          · rw [if_pos h, hL.par j (by omega)]
            have := hL.par i hi
            rw [hj, Int.toNat_natCast] at this
            rw [this, h]
          · rw [if_neg h]; exact hL.par q hq
        · rw [hset q hq]
          by_cases h : q = i
          · rw [if_pos h]; intro h2; omega
          · rw [if_neg h]; exact hL.fix q hq
      obtain ⟨m, hm⟩ : ∃ m : Nat, rd g (j : Int) = (m : Int) := ⟨(rd g (j : Int)).toNat, by omega⟩
      obtain ⟨g', h1, h2⟩ := ih m (by omega) k _ hL2 (by omega) (by omega)
      refine ⟨g', ?_, h2⟩
      have e1 : rd (g.set i (rd g (j : Int))) (i : Int) = (m : Int) := by rw [hset i hi, if_pos rfl, hm]
      rw [e1, h1]
      have e2 := hL2.par i hi
      rw [e1, Int.toNat_natCast] at e2
      rw [e2]
/-- The labels behind a join. -/
def joinL (ρ : Nat → Int) (a b : Nat) (i : Nat) : Int := if ρ i = mx (ρ a) (ρ b) then mn (ρ a) (ρ b) else ρ i
theorem merge_spec {n : Nat} {ρ : Nat → Int} {g : List Int} (hL : Lab n g ρ) (a b k : Nat) (ha : a < n) (hb : b < n) (hk : n ≤ k) : ∃ q g', cycles_groups_merge.f k g (a : Int) (b : Int) = some (q, g') ∧ Lab n g' (joinL ρ a b) := by
  unfold cycles_groups_merge.f cycles_groups_find.f
  obtain ⟨g1, h1, hL1⟩ := find_spec a k g hL ha (by omega)
  rw [h1, Option.bind_some]
  obtain ⟨g2, h2, hL2⟩ := find_spec b k g1 hL1 hb (by omega)
  simp only [h2, Option.bind_some]
  have ra := hL.rng a ha
  have rb := hL.rng b hb
  have hM : 0 ≤ mx (ρ a) (ρ b) ∧ mx (ρ a) (ρ b) < (n : Int) ∧ 0 ≤ mn (ρ a) (ρ b) ∧ mn (ρ a) (ρ b) ≤ mx (ρ a) (ρ b) := by unfold mx mn; split <;> split <;> omega
  rw [if_pos hM.1, if_pos (by rw [hL.len]; omega)]
  refine ⟨_, _, rfl, ?_⟩
  obtain ⟨M, hMe⟩ : ∃ M : Nat, mx (ρ a) (ρ b) = (M : Int) := ⟨(mx (ρ a) (ρ b)).toNat, by omega⟩
  obtain ⟨m, hme⟩ : ∃ m : Nat, mn (ρ a) (ρ b) = (m : Int) := ⟨(mn (ρ a) (ρ b)).toNat, by omega⟩
  have hMn : M < n := by omega
  have hmM : m ≤ M := by omega
  have hρM : ρ M = (M : Int) := by
    have : mx (ρ a) (ρ b) = ρ a ∨ mx (ρ a) (ρ b) = ρ b := by unfold mx; split <;> simp
    rcases this with h | h
    · have := ra.2.2; rw [← h, hMe, Int.toNat_natCast] at this; exact this
    · have := rb.2.2; rw [← h, hMe, Int.toNat_natCast] at this; exact this
  have hρm : ρ m = (m : Int) := by
    have : mn (ρ a) (ρ b) = ρ a ∨ mn (ρ a) (ρ b) = ρ b := by unfold mn; split <;> simp
    rcases this with h | h
    · have := ra.2.2; rw [← h, hme, Int.toNat_natCast] at this; exact this
    · have := rb.2.2; rw [← h, hme, Int.toNat_natCast] at this; exact this
  have hJ : ∀ i, joinL ρ a b i = if ρ i = (M : Int) then (m : Int) else ρ i := fun i => by unfold joinL; rw [hMe, hme]
  rw [hMe, hme, Int.toNat_natCast]
  have hset : ∀ q : Nat, q < n → rd (g2.set M (m : Int)) (q : Int) = if q = M then (m : Int) else rd g2 (q : Int) := fun q hq => by
    rw [rd_set g2 M _ (q : Int) (by rw [hL2.len]; omega) (by omega) (by rw [hL2.len]; omega)]
    by_cases h : q = M
    · rw [if_pos h, if_pos (by omega)]
    · rw [if_neg h, if_neg (by omega)]
  refine ⟨by rw [List.length_set]; exact hL2.len, fun q hq => ?_, fun q hq => ?_, fun q hq => ?_, fun q hq => ?_⟩
  · rw [hset q hq]
    by_cases h : q = M
    · rw [if_pos h]; omega
    · rw [if_neg h]; exact hL2.low q hq
  · rw [hset q hq, hJ q]
    by_cases h : q = M
    · rw [if_pos h, Int.toNat_natCast, hJ m, hρm, h, hρM, if_pos rfl]
      by_cases h2 : (m : Int) = (M : Int)
      · rw [if_pos h2]
      · rw [if_neg h2]
    · rw [if_neg h, hJ, hL2.par q hq]
  · rw [hset q hq, hJ q]
    by_cases h : q = M
    · rw [if_pos h]
      intro h2
      rw [h, hρM, if_pos rfl, h2, h]
    · rw [if_neg h]
      intro h2
      have h3 := hL2.fix q hq h2
      rw [h3, if_neg (by omega)]
  · rw [hJ q]
    have hq3 := hL2.rng q hq
    by_cases h : ρ q = (M : Int)
    · rw [if_pos h]
      refine ⟨by omega, by omega, ?_⟩
      rw [Int.toNat_natCast, hJ m, hρm]
      by_cases h2 : (m : Int) = (M : Int)
      · rw [if_pos h2]
      · rw [if_neg h2]
    · rw [if_neg h]
      refine ⟨hq3.1, hq3.2.1, ?_⟩
      rw [hJ, hq3.2.2, if_neg h]
theorem ident_set {n i : Nat} {x : List Int} (hl : x.length = n) (hi : i < n) (h : ∀ j : Nat, j < i → rd x (j : Int) = (j : Int)) : ∀ j : Nat, j < i + 1 → rd (x.set i (i : Int)) (j : Int) = (j : Int) := by
  intro j hj
  rw [rd_set x i _ (j : Int) (by omega) (by omega) (by omega)]
  by_cases h2 : j = i
  · rw [if_pos (by omega), h2]
  · rw [if_neg (by omega)]; exact h j (by omega)
theorem alone_l0 {n : Nat} (hn : n ≤ 1000) : ∀ (d i k : Nat) (x : List Int), i + d = n → d < k → x.length = n → (∀ j : Nat, j < i → rd x (j : Int) = (j : Int)) → ∃ y, cycles_alone.l0 k x (n : Int) (i : Int) = some y ∧ y.length = n ∧ ∀ j : Nat, j < n → rd y (j : Int) = (j : Int)
  | 0, i, k, x, hi, hk, hl, h => by
    obtain ⟨k, rfl⟩ : ∃ m, k = m + 1 := ⟨k - 1, by omega⟩
    simp only [cycles_alone.l0]
    rw [if_neg (by omega)]
    exact ⟨x, rfl, hl, fun j hj => h j (by omega)⟩
  | d + 1, i, k, x, hi, hk, hl, h => by
    obtain ⟨k, rfl⟩ : ∃ m, k = m + 1 := ⟨k - 1, by omega⟩
    simp only [cycles_alone.l0]
    rw [if_pos (by omega), if_pos (by omega), if_pos (by omega), wrap_succ i (by omega), Int.toNat_natCast]
    exact alone_l0 hn d (i + 1) k _ (by omega) (by omega) (by rw [List.length_set]; exact hl) (ident_set hl (by omega) h)
theorem alone_f (n k : Nat) (hn : n ≤ 1000) (hk : n < k) : ∃ g, cycles_alone.f k (n : Int) = some g ∧ Lab n g (fun i => (i : Int)) := by
  obtain ⟨y, h1, h2, h3⟩ := alone_l0 hn n 0 k (List.replicate n 0) (by omega) hk List.length_replicate (fun j hj => absurd hj (by omega))
  refine ⟨y, ?_, h2, fun i hi => by rw [h3 i hi]; omega, fun i hi => by rw [h3 i hi]; omega, fun i hi _ => rfl, fun i hi => by refine ⟨by omega, by omega, by omega⟩⟩
  unfold cycles_alone.f
  have hb : ((n : Int)).toNat ≤ 35184372088832 := by rw [Int.toNat_natCast]; omega
  rw [if_pos (by omega), if_pos hb, obind, Int.toNat_natCast, List.length_replicate]
  exact h1
/-- The program's labels behind some activities. -/
def labAll : List S62 → (Nat → Int) → (Nat → Int)
  | [], ρ => ρ
  | a :: al, ρ => labAll al (joinL ρ a.f1.toNat a.f2.toNat)
theorem mergeLoop_spec {n : Nat} {ac : List S62} (hg : ∀ a ∈ ac, (0 ≤ a.f1 ∧ a.f1 < (n : Int)) ∧ 0 ≤ a.f2 ∧ a.f2 < (n : Int)) (k : Nat) (hk : n ≤ k) : ∀ (d i : Nat) (g : List Int) (ρ : Nat → Int), i + d = ac.length → Lab n g ρ → ∃ g', mergeLoop k ac d i g = some g' ∧ Lab n g' (labAll (ac.drop i) ρ)
  | 0, i, g, ρ, hi, hL => by
    rw [List.drop_of_length_le (by omega)]
    exact ⟨g, rfl, hL⟩
  | d + 1, i, g, ρ, hi, hL => by
    obtain ⟨⟨p1, p2⟩, p3, p4⟩ := hg _ (rd36' ac (i : Int) (by omega) (by omega))
    rw [rd36d ac i (by omega)]
    unfold mergeLoop labAll
    generalize rd_T62 ac (i : Int) = x at *
    obtain ⟨q, g', h1, h2⟩ := merge_spec hL x.f1.toNat x.f2.toNat k (by omega) (by omega) hk
    rw [show ((x.f1.toNat : Nat) : Int) = x.f1 by omega, show ((x.f2.toNat : Nat) : Int) = x.f2 by omega] at h1
    rw [h1, Option.bind_some]
    exact mergeLoop_spec hg k hk d (i + 1) g' _ (by omega) h2
theorem joinL_ker (ρ : Nat → Int) (a b i j : Nat) : joinL ρ a b i = joinL ρ a b j ↔ joinK (fun x y => ρ x = ρ y) a b i j := by
  unfold joinL
  refine swap_join ρ a b _ _ ?_ i j
  unfold mx mn
  by_cases h : ρ a < ρ b
  · rw [if_pos h, if_neg (by omega)]; exact .inr ⟨rfl, rfl⟩
  · rw [if_neg h]
    by_cases h2 : ρ b < ρ a
    · rw [if_pos h2]; exact .inl ⟨rfl, rfl⟩
    · rw [if_neg h2]
      have : ρ a = ρ b := by omega
      exact .inl ⟨rfl, this⟩
theorem labAll_ker {n : Nat} : ∀ (al : List S62) (ρ : Nat → Int), (∀ a ∈ al, a.f1.toNat < n ∧ a.f2.toNat < n) → ∀ i j, i < n → j < n → (labAll al ρ i = labAll al ρ j ↔ kerAll al (fun x y => ρ x = ρ y) i j)
  | [], ρ, _, i, j, _, _ => Iff.rfl
  | a :: al, ρ, hg, i, j, hi, hj => by
    show labAll al (joinL ρ a.f1.toNat a.f2.toNat) i = labAll al (joinL ρ a.f1.toNat a.f2.toNat) j ↔ kerAll al (joinK (fun x y => ρ x = ρ y) a.f1.toNat a.f2.toNat) i j
    rw [labAll_ker al _ (fun b hb => hg b (List.mem_cons_of_mem _ hb)) i j hi hj]
    exact kerAll_congr al (fun b hb => hg b (List.mem_cons_of_mem _ hb)) (fun x y _ _ => joinL_ker ρ _ _ x y) i j hi hj
theorem posK_lt {r : Int} : ∀ dn : List Int, r ∈ dn → posK dn r < dn.length
  | [], h => absurd h (by simp)
  | x :: xs, h => by
    show (if x = r then 0 else posK xs r + 1) < xs.length + 1
    by_cases e : x = r
    · rw [if_pos e]; omega
    · rw [if_neg e]
      have := posK_lt xs (by rcases List.mem_cons.1 h with h | h; exact absurd h.symm e; exact h)
      omega
theorem rd_app {l : List Int} {x : Int} {j : Nat} (h : j < l.length) : rd (l ++ [x]) (j : Int) = rd l (j : Int) := by
  unfold rd
  rw [Int.toNat_natCast, List.getD_eq_getElem?_getD, List.getElem?_append_left h, List.getD_eq_getElem?_getD]
theorem rd_last {l : List Int} {x : Int} : rd (l ++ [x]) (l.length : Int) = x := by
  unfold rd
  rw [Int.toNat_natCast, List.getD_eq_getElem?_getD, List.getElem?_append_right (Nat.le_refl _)]
  simp
/-- An event is the first of its class. -/
def freshB (ρ : Nat → Int) (i : Nat) : Bool := (List.range i).all (fun j => decide (ρ j ≠ ρ i))
theorem freshB_iff (ρ : Nat → Int) (i : Nat) : freshB ρ i = true ↔ ∀ j : Nat, j < i → ρ j ≠ ρ i := by
  unfold freshB
  rw [List.all_eq_true]
  constructor
  · intro h j hj
    exact of_decide_eq_true (h j (List.mem_range.2 hj))
  · intro h j hj
    exact decide_eq_true (h j (List.mem_range.1 hj))
theorem freshB_congr {ρ σ : Nat → Int} {n : Nat} (h : ∀ i j, i < n → j < n → (ρ i = ρ j ↔ σ i = σ j)) (i : Nat) (hi : i < n) : freshB ρ i = freshB σ i := by
  rw [Bool.eq_iff_iff, freshB_iff, freshB_iff]
  exact ⟨fun h2 j hj e => h2 j hj ((h j i (by omega) hi).2 e), fun h2 j hj e => h2 j hj ((h j i (by omega) hi).1 e)⟩
/-- How many classes there are among the first i events. -/
def cntP (ρ : Nat → Int) : Nat → Nat
  | 0 => 0
  | i + 1 => if freshB ρ i = true then cntP ρ i + 1 else cntP ρ i
/-- A number of a component, as the program gives it. -/
def NumOk (ρ : Nat → Int) (j : Nat) (v : Int) : Prop := (freshB ρ j = true → v = (cntP ρ j : Int)) ∧ (freshB ρ j = false → 0 ≤ v ∧ v < (cntP ρ j : Int))
theorem numLoop_spec {n : Nat} {ρ : Nat → Int} (k : Nat) (hk : n ≤ k) : ∀ (d i : Nat) (g dn out : List Int), i + d = n → Lab n g ρ → out.length = i → dn.length = cntP ρ i → (∀ r : Int, r ∈ dn ↔ ∃ j : Nat, j < i ∧ ρ j = r) → (∀ j : Nat, j < i → NumOk ρ j (rd out (j : Int))) →
    ∃ out', numLoop k d i g dn out = some out' ∧ out'.length = n ∧ ∀ j : Nat, j < n → NumOk ρ j (rd out' (j : Int))
  | 0, i, g, dn, out, hi, hL, hl, _, _, hN => ⟨out, rfl, by omega, fun j hj => hN j (by omega)⟩
  | d + 1, i, g, dn, out, hi, hL, hl, hd, hm, hN => by
    obtain ⟨g', h1, h2⟩ := find_spec i k g hL (by omega) (by omega)
    unfold numLoop cycles_groups_find.f
    rw [h1, Option.bind_some]
    by_cases hin : ρ i ∈ dn
    · have hfr : freshB ρ i = false := by
        cases hb : freshB ρ i with
        | false => rfl
        | true =>
          obtain ⟨j, hj, hjr⟩ := (hm _).1 hin
          exact absurd hjr ((freshB_iff ρ i).1 hb j hj)
      have hadd : addK dn (ρ i) = dn := if_pos hin
      rw [hadd]
      refine numLoop_spec k hk d (i + 1) g' dn _ (by omega) h2 (by simp; omega) (by rw [hd]; show cntP ρ i = if freshB ρ i = true then _ else _; rw [hfr]; rfl) (fun r => ?_) (fun j hj => ?_)
      · rw [hm r]
        constructor
        · rintro ⟨j, hj, e⟩; exact ⟨j, by omega, e⟩
        · rintro ⟨j, hj, e⟩
          by_cases hji : j = i
          · subst hji; rw [← e]; exact (hm _).1 hin
          · exact ⟨j, by omega, e⟩
      · by_cases hji : j = i
        · rw [hji, ← hl, rd_last, hl]
          refine ⟨fun h => ?_, fun _ => ?_⟩
          · rw [hfr] at h; exact absurd h (by simp)
          · have := posK_lt dn hin
            show 0 ≤ (posK dn (ρ i) : Int) ∧ (posK dn (ρ i) : Int) < (cntP ρ i : Int)
            rw [← hd]; omega
        · rw [rd_app (by omega)]; exact hN j (by omega)
    · have hfr : freshB ρ i = true := (freshB_iff ρ i).2 (fun j hj e => hin ((hm _).2 ⟨j, hj, e⟩))
      have hadd : addK dn (ρ i) = dn ++ [ρ i] := if_neg hin
      rw [hadd]
      refine numLoop_spec k hk d (i + 1) g' _ _ (by omega) h2 (by simp; omega) (by rw [List.length_append, hd]; show _ = if freshB ρ i = true then _ else _; rw [hfr]; rfl) (fun r => ?_) (fun j hj => ?_)
      · rw [List.mem_append, hm r, List.mem_singleton]
        constructor
        · rintro (⟨j, hj, e⟩ | e)
          · exact ⟨j, by omega, e⟩
          · exact ⟨i, by omega, e.symm⟩
        · rintro ⟨j, hj, e⟩
          by_cases hji : j = i
          · subst hji; exact .inr e.symm
          · exact .inl ⟨j, by omega, e⟩
      · by_cases hji : j = i
        · rw [hji, ← hl, rd_last, hl]
          refine ⟨fun _ => ?_, fun h => ?_⟩
          · rw [posK_new dn hin, hd]
          · rw [hfr] at h; exact absurd h (by simp)
        · rw [rd_app (by omega)]; exact hN j (by omega)
theorem compF_spec {n : Nat} {ac : List S62} (hg : ∀ a ∈ ac, (0 ≤ a.f1 ∧ a.f1 < (n : Int)) ∧ 0 ≤ a.f2 ∧ a.f2 < (n : Int)) (hn : n ≤ 1000) (k : Nat) (hk : n < k) : ∃ comp, compF k n ac = some comp ∧ comp.length = n ∧ ∀ j : Nat, j < n → NumOk (labAll ac (fun i => (i : Int))) j (rd comp (j : Int)) := by
  obtain ⟨g0, h1, hL0⟩ := alone_f n k hn hk
  obtain ⟨g1, h2, hL1⟩ := mergeLoop_spec hg k (by omega) ac.length 0 g0 _ (by omega) hL0
  obtain ⟨comp, h3, h4, h5⟩ := numLoop_spec k (by omega) n 0 g1 [] [] (by omega) hL1 rfl rfl (fun r => by simp) (fun j hj => absurd hj (by omega))
  refine ⟨comp, ?_, h4, by simpa using h5⟩
  unfold compF
  rw [h1, Option.bind_some, if_pos hL0.len, h2, Option.bind_some, h3]
/-- The program's flags: the first of each class. -/
theorem fstep_spec {n : Nat} {ρ : Nat → Int} {comp : List Int} (hl : comp.length = n) (h : ∀ j : Nat, j < n → NumOk ρ j (rd comp (j : Int))) : ∀ i : Nat, i ≤ n → (fstep comp n i).2 = (cntP ρ i : Int) - 1 ∧ ∀ j : Nat, j < n → (fstep comp n i).1.getD j false = (decide (j < i) && freshB ρ j)
  | 0, _ => ⟨rfl, fun j hj => by
      show (List.replicate n false).getD j false = _
      rw [List.getD_eq_getElem?_getD, List.getElem?_replicate]
      split <;> simp⟩
  | i + 1, hi => by
    obtain ⟨ih1, ih2⟩ := fstep_spec hl h i (by omega)
    have hN := h i (by omega)
    have hlt : (fstep comp n i).2 < rd comp (i : Int) ↔ freshB ρ i = true := by
      rw [ih1]
      cases hb : freshB ρ i with
      | true => have := hN.1 hb; constructor <;> intro <;> first | rfl | omega
      | false => have := hN.2 hb; constructor <;> intro h <;> first | omega | exact absurd h (by simp)
    have hlen := fstep_len comp n i
    constructor
    · show (if (fstep comp n i).2 < rd comp (i : Int) then rd comp (i : Int) else (fstep comp n i).2) = ((if freshB ρ i = true then cntP ρ i + 1 else cntP ρ i : Nat) : Int) - 1
      by_cases hb : freshB ρ i = true
      · rw [if_pos (hlt.2 hb), if_pos hb, hN.1 hb]; omega
      · rw [if_neg (fun h => hb (hlt.1 h)), if_neg hb, ih1]
    · intro j hj
      show ((fstep comp n i).1.set i (decide ((fstep comp n i).2 < rd comp (i : Int)))).getD j false = _
      rw [List.getD_eq_getElem?_getD, List.getElem?_set]
      by_cases hji : i = j
      · subst hji
        rw [if_pos rfl, if_pos (by omega)]
        simp only [Option.getD_some]
        rw [decide_eq_true (show i < i + 1 by omega), Bool.true_and, Bool.eq_iff_iff, decide_eq_true_eq]
        exact hlt
      · rw [if_neg hji, ← List.getD_eq_getElem?_getD, ih2 j hj]
        congr 1
        rw [Bool.eq_iff_iff, decide_eq_true_eq, decide_eq_true_eq]
        omega
theorem newF_spec {n : Nat} (comp : List Int) : ∀ i : Nat, i ≤ n → ∀ j : Nat, j < n → (newF comp n i).getD j false = (decide (j < i) && freshB (fun q => rd comp (q : Int)) j)
  | 0, _, j, hj => by
    show (List.replicate n false).getD j false = _
    rw [List.getD_eq_getElem?_getD, List.getElem?_replicate]
    split <;> simp
  | i + 1, hi, j, hj => by
    have ih2 := newF_spec (n := n) comp i (by omega)
    have hlen := newF_len comp n i
    have hin : ∀ m : Nat, innerF comp i m = (List.range m).all (fun q => decide (rd comp (q : Int) ≠ rd comp (i : Int))) := by
      intro m
      induction m with
      | zero => rfl
      | succ m ihm =>
        rw [List.range_succ, List.all_append, ← ihm]
        show (if rd comp (m : Int) = rd comp (i : Int) then false else innerF comp i m) = _
        by_cases h : rd comp (m : Int) = rd comp (i : Int)
        · rw [if_pos h]; simp [h]
        · rw [if_neg h]; simp [h]
    show ((newF comp n i).set i (innerF comp i i)).getD j false = _
    rw [List.getD_eq_getElem?_getD, List.getElem?_set]
    by_cases hji : i = j
    · subst hji
      rw [if_pos rfl, if_pos (show i < (newF comp n i).length by omega), hin]
      simp [freshB]
    · rw [if_neg hji, ← List.getD_eq_getElem?_getD, ih2 j hj]
      congr 1
      rw [Bool.eq_iff_iff, decide_eq_true_eq, decide_eq_true_eq]
      omega
theorem refmerge_l0 {n : Nat} (hn : n ≤ 1000) (x y : Int) : ∀ (d i k : Nat) (R : List Int), i + d = n → d < k → R.length = n → ∃ R', railplanref11_merge.l0 k R x y (n : Int) (i : Int) = some (true, R') ∧ R'.length = n ∧ ∀ j : Nat, j < n → rd R' (j : Int) = if i ≤ j ∧ rd R (j : Int) = y then x else rd R (j : Int)
  | 0, i, k, R, hi, hk, hl => by
    obtain ⟨k, rfl⟩ : ∃ m, k = m + 1 := ⟨k - 1, by omega⟩
    simp only [railplanref11_merge.l0]
    rw [if_neg (by omega)]
    exact ⟨R, rfl, hl, fun j hj => by rw [if_neg (by omega)]⟩
  | d + 1, i, k, R, hi, hk, hl => by
    obtain ⟨k, rfl⟩ : ∃ m, k = m + 1 := ⟨k - 1, by omega⟩
    simp only [railplanref11_merge.l0]
    rw [if_pos (by omega), if_pos (by omega), if_pos (by omega), wrap_succ i (by omega), Int.toNat_natCast]
    by_cases hy : rd R (i : Int) = y
    · rw [if_pos hy]
      obtain ⟨R', h1, h2, h3⟩ := refmerge_l0 hn x y d (i + 1) k (R.set i x) (by omega) (by omega) (by rw [List.length_set]; exact hl)
      refine ⟨R', h1, h2, fun j hj => ?_⟩
      rw [h3 j hj, rd_set R i x (j : Int) (by omega) (by omega) (by omega)]
      by_cases hji : j = i
      · rw [if_neg (by omega), if_pos (by omega), if_pos ⟨by omega, by rw [hji]; exact hy⟩]
      · rw [if_neg (show ¬ (j : Int) = (i : Int) by omega)]
        by_cases hq : i ≤ j ∧ rd R (j : Int) = y
        · rw [if_pos hq, if_pos ⟨by omega, hq.2⟩]
        · rw [if_neg hq, if_neg (fun hq2 => hq ⟨by omega, hq2.2⟩)]
    · rw [if_neg hy]
      obtain ⟨R', h1, h2, h3⟩ := refmerge_l0 hn x y d (i + 1) k R (by omega) (by omega) hl
      refine ⟨R', h1, h2, fun j hj => ?_⟩
      rw [h3 j hj]
      by_cases hq : i ≤ j ∧ rd R (j : Int) = y
      · have : j ≠ i := fun e => hy (by rw [← e]; exact hq.2)
        rw [if_pos hq, if_pos ⟨by omega, hq.2⟩]
      · rw [if_neg hq, if_neg (fun hq2 => hq ⟨by omega, hq2.2⟩)]
theorem refmerge_f {n : Nat} (hn : n ≤ 1000) (a : S62) (k : Nat) (hk : n < k) (R : List Int) (hl : R.length = n) (h1 : 0 ≤ a.f1 ∧ a.f1 < (n : Int)) (h2 : 0 ≤ a.f2 ∧ a.f2 < (n : Int)) :
    ∃ q R', railplanref11_merge.f k R a.f0 a.f1 a.f2 a.f3 a.f4 a.f5 = some (q, R') ∧ R'.length = n ∧ ∀ i j : Nat, i < n → j < n → (rd R' (i : Int) = rd R' (j : Int) ↔ joinK (fun x y => rd R (x : Int) = rd R (y : Int)) a.f1.toNat a.f2.toNat i j) := by
  unfold railplanref11_merge.f
  rw [if_pos h1.1, if_pos (by omega), if_pos h2.1, if_pos (by omega)]
  have e1 : ((a.f1.toNat : Nat) : Int) = a.f1 := by omega
  have e2 : ((a.f2.toNat : Nat) : Int) = a.f2 := by omega
  by_cases he : rd R a.f1 = rd R a.f2
  · rw [if_pos he]
    refine ⟨_, _, rfl, hl, fun i j hi hj => ?_⟩
    show _ ↔ (rd R (i : Int) = rd R (j : Int) ∨ ((rd R (i : Int) = rd R (a.f1.toNat : Int) ∨ rd R (i : Int) = rd R (a.f2.toNat : Int)) ∧ (rd R (j : Int) = rd R (a.f1.toNat : Int) ∨ rd R (j : Int) = rd R (a.f2.toNat : Int))))
    rw [e1, e2]
    constructor
    · exact fun h => .inl h
    · rintro (h | ⟨h3, h4⟩)
      · exact h
      · rcases h3 with h3 | h3 <;> rcases h4 with h4 | h4 <;> (rw [h3, h4]) <;> first | rfl | exact he | exact he.symm
  · rw [if_neg he]
    have := refmerge_l0 hn (rd R a.f1) (rd R a.f2) n 0 k R (by omega) hk hl
    obtain ⟨R', q1, q2, q3⟩ := this
    rw [hl]
    refine ⟨true, R', q1, q2, fun i j hi hj => ?_⟩
    rw [q3 i hi, q3 j hj]
    have hs := swap_join (fun q => rd R (q : Int)) a.f1.toNat a.f2.toNat (rd R a.f2) (rd R a.f1) (.inr ⟨by show _ = rd R _; rw [e2], by show _ = rd R _; rw [e1]⟩) i j
    rw [← hs]
    simp
theorem refl1_spec {n : Nat} {ac : List S62} (hn : n ≤ 1000) (hac : ac.length ≤ 1000) (P : Int) (le : List S60) (hg : ∀ a ∈ ac, (0 ≤ a.f1 ∧ a.f1 < (n : Int)) ∧ 0 ≤ a.f2 ∧ a.f2 < (n : Int)) : ∀ (d i k : Nat) (R : List Int), i + d = ac.length → n + d < k → R.length = n → ∃ R', railplanref11_Components.l1 k R (i : Int) P le ac = railplanref11_Components.l1 (k - d) R' (ac.length : Int) P le ac ∧ R'.length = n ∧ ∀ p q : Nat, p < n → q < n → (rd R' (p : Int) = rd R' (q : Int) ↔ kerAll (ac.drop i) (fun x y => rd R (x : Int) = rd R (y : Int)) p q)
  | 0, i, k, R, hi, hk, hl => by
    have : i = ac.length := by omega
    subst this
    refine ⟨R, rfl, hl, fun p q _ _ => ?_⟩
    rw [List.drop_length]
    exact Iff.rfl
  | d + 1, i, k, R, hi, hk, hl => by
    obtain ⟨k, rfl⟩ : ∃ m, k = m + 1 := ⟨k - 1, by omega⟩
    have hga := hg _ (rd36' ac (i : Int) (by omega) (by omega))
    obtain ⟨q, R1, h1, h2, h3⟩ := refmerge_f hn (rd_T62 ac (i : Int)) k (by omega) R hl hga.1 hga.2
    obtain ⟨R', g1, g2, g3⟩ := refl1_spec hn hac P le hg d (i + 1) k R1 (by omega) (by omega) h2
    refine ⟨R', ?_, g2, fun p q hp hq => ?_⟩
    · rw [show k + 1 - (d + 1) = k - d by omega, ← g1]
      simp only [railplanref11_Components.l1]
      rw [if_pos (by omega), if_pos (by omega), h1, Option.bind_some, wrap_succ i (by omega)]
    · rw [g3 p q hp hq, rd36d ac i (by omega)]
      exact kerAll_congr _ (fun a ha => by
        have := hg a (List.mem_of_mem_drop ha)
        omega) h3 p q hp hq
theorem refl3_spec {n : Nat} (hn : n ≤ 1000) (R : List Int) (hR : R.length = n) (next x45 : Int) (i : Nat) (hi : i < n) (out0 : List Int) (hneg : ∀ a : Nat, a < i → 0 ≤ rd out0 (a : Int)) : ∀ (d j k : Nat) (out : List Int), j + d = i → d < k → out.length = n → (∀ a : Nat, a < n → a ≠ i → rd out (a : Int) = rd out0 (a : Int)) →
    ((rd out (i : Int) = -1 ∧ ∀ a : Nat, a < j → rd R (a : Int) ≠ rd R (i : Int)) ∨ ∃ a : Nat, a < j ∧ rd R (a : Int) = rd R (i : Int) ∧ rd out (i : Int) = rd out0 (a : Int)) →
    ∃ out', railplanref11_Components.l3 k R out next (i : Int) (j : Int) x45 (i : Int) = railplanref11_Components.l3 (k - d) R out' next (i : Int) (i : Int) x45 (i : Int) ∧ out'.length = n ∧ (∀ a : Nat, a < n → a ≠ i → rd out' (a : Int) = rd out0 (a : Int)) ∧
      ((rd out' (i : Int) = -1 ∧ ∀ a : Nat, a < i → rd R (a : Int) ≠ rd R (i : Int)) ∨ ∃ a : Nat, a < i ∧ rd R (a : Int) = rd R (i : Int) ∧ rd out' (i : Int) = rd out0 (a : Int))
  | 0, j, k, out, hj, hk, hl, ho, hc => by
    have : j = i := by omega
    subst this
    exact ⟨out, rfl, hl, ho, hc⟩
  | d + 1, j, k, out, hj, hk, hl, ho, hc => by
    obtain ⟨k, rfl⟩ : ∃ m, k = m + 1 := ⟨k - 1, by omega⟩
    have hstep : ∀ o, railplanref11_Components.l3 (k + 1 - (d + 1)) R o next (i : Int) (i : Int) x45 (i : Int) = railplanref11_Components.l3 (k - d) R o next (i : Int) (i : Int) x45 (i : Int) := fun o => by rw [show k + 1 - (d + 1) = k - d by omega]
    by_cases hy : rd R (j : Int) = rd R (i : Int)
    · have hset : ∀ a : Nat, a < n → rd (out.set i (rd out (j : Int))) (a : Int) = if a = i then rd out (j : Int) else rd out (a : Int) := fun a ha => by
        rw [rd_set out i _ (a : Int) (by omega) (by omega) (by omega)]
        by_cases h : a = i
        · rw [if_pos h, if_pos (by omega)]
        · rw [if_neg h, if_neg (by omega)]
      obtain ⟨out', h1, h2, h3, h4⟩ := refl3_spec hn R hR next x45 i hi out0 hneg d (j + 1) k (out.set i (rd out (j : Int))) (by omega) (by omega) (by rw [List.length_set]; exact hl) (fun a ha hai => by rw [hset a ha, if_neg hai]; exact ho a ha hai)
        (.inr ⟨j, by omega, hy, by rw [hset i hi, if_pos rfl]; exact ho j (by omega) (by omega)⟩)
      refine ⟨out', ?_, h2, h3, h4⟩
      rw [hstep, ← h1]
      simp only [railplanref11_Components.l3]
      rw [if_pos (by omega), if_pos (by omega), if_pos (by omega), if_pos (by omega), if_pos (by omega), if_pos hy, if_pos (by omega), if_pos (by omega), wrap_succ j (by omega), Int.toNat_natCast]
    · obtain ⟨out', h1, h2, h3, h4⟩ := refl3_spec hn R hR next x45 i hi out0 hneg d (j + 1) k out (by omega) (by omega) hl ho (by
        rcases hc with ⟨c1, c2⟩ | ⟨a, c1, c2, c3⟩
        · exact .inl ⟨c1, fun a ha => by
            by_cases h : a = j
            · rw [h]; exact hy
            · exact c2 a (by omega)⟩
        · exact .inr ⟨a, by omega, c2, c3⟩)
      refine ⟨out', ?_, h2, h3, h4⟩
      rw [hstep, ← h1]
      simp only [railplanref11_Components.l3]
      rw [if_pos (by omega), if_pos (by omega), if_pos (by omega), if_pos (by omega), if_pos (by omega), if_neg hy, wrap_succ j (by omega)]
/-- The reference's numbers tell the classes, the first i told. -/
structure RNum (n i : Nat) (R out : List Int) (next : Int) : Prop where
  len : out.length = n
  rng : ∀ a : Nat, a < i → 0 ≤ rd out (a : Int) ∧ rd out (a : Int) < next
  nxt : 0 ≤ next ∧ next ≤ (i : Int)
  ker : ∀ a b : Nat, a < i → b < i → (rd out (a : Int) = rd out (b : Int) ↔ rd R (a : Int) = rd R (b : Int))
theorem refl2_spec {n : Nat} (hn : n ≤ 1000) (R : List Int) (hR : R.length = n) : ∀ (d i k : Nat) (out : List Int) (next : Int), i + d = n → (n + 3) * d < k → RNum n i R out next → ∃ out' next', railplanref11_Components.l2 k R out next (n : Int) (i : Int) = some out' ∧ RNum n n R out' next'
  | 0, i, k, out, next, hi, hk, hN => by
    obtain ⟨k, rfl⟩ : ∃ m, k = m + 1 := ⟨k - 1, by omega⟩
    have : i = n := by omega
    subst this
    simp only [railplanref11_Components.l2]
    rw [if_neg (by omega)]
    exact ⟨out, next, rfl, hN⟩
  | d + 1, i, k, out, next, hi, hk, hN => by
    have hk2 : (n + 3) * d + (n + 3) < k := by rw [Nat.mul_succ] at hk; exact hk
    obtain ⟨k, rfl⟩ : ∃ m, k = m + 1 := ⟨k - 1, by omega⟩
    have hlen := hN.len
    have hset : ∀ (o : List Int) (v : Int), o.length = n → ∀ a : Nat, a < n → rd (o.set i v) (a : Int) = if a = i then v else rd o (a : Int) := fun o v ho a ha => by
      rw [rd_set o i _ (a : Int) (by omega) (by omega) (by omega)]
      by_cases h : a = i
      · rw [if_pos h, if_pos (by omega)]
      · rw [if_neg h, if_neg (by omega)]
    obtain ⟨o1, h1, h2, h3, h4⟩ := refl3_spec hn R hR next (n : Int) i (by omega) out (fun a ha => (hN.rng a ha).1) i 0 k (out.set i (-1)) (by omega) (by omega) (by rw [List.length_set]; exact hlen) (fun a ha hai => by rw [hset out _ hlen a ha, if_neg hai]) (.inl ⟨by rw [hset out _ hlen i (by omega), if_pos rfl], fun a ha => absurd ha (by omega)⟩)
    obtain ⟨q, hq⟩ : ∃ q, k - i = q + 1 := ⟨k - i - 1, by omega⟩
    have hq2 : (n + 3) * d < q := by omega
    simp only [railplanref11_Components.l2]
    rw [if_pos (by omega), if_pos (by omega), if_pos (by omega), Int.toNat_natCast, show (0 : Int) = ((0 : Nat) : Int) from rfl, h1, hq]
    simp only [railplanref11_Components.l3]
    rw [if_neg (by omega), if_pos (by omega), if_pos (by omega), wrap_succ i (by omega), Int.toNat_natCast]
    rcases h4 with ⟨c1, c2⟩ | ⟨a, c1, c2, c3⟩
    · rw [if_pos (by rw [c1]; decide)]
      have hw : wrap64 (next + 1) = next + 1 := by have := hN.nxt; unfold wrap64; omega
      rw [hw]
      refine refl2_spec hn R hR d (i + 1) q _ _ (by omega) hq2 ⟨by rw [List.length_set]; exact h2, fun b hb => ?_, by have := hN.nxt; omega, fun b c hb hc => ?_⟩
      · rw [hset o1 _ h2 b (by omega)]
        by_cases h : b = i
        · rw [if_pos h]; have := hN.nxt; omega
        · rw [if_neg h, h3 b (by omega) h]; have := hN.rng b (by omega); omega
      · rw [hset o1 _ h2 b (by omega), hset o1 _ h2 c (by omega)]
        by_cases hbi : b = i
        · rw [if_pos hbi]
          by_cases hci : c = i
          · rw [if_pos hci, hbi, hci]; simp
          · rw [if_neg hci, h3 c (by omega) hci, hbi]
            have r1 := hN.rng c (by omega)
            have r2 := c2 c (by omega)
            exact ⟨fun e => by omega, fun e => absurd e.symm r2⟩
        · rw [if_neg hbi, h3 b (by omega) hbi]
          by_cases hci : c = i
          · rw [if_pos hci, hci]
            have r1 := hN.rng b (by omega)
            have r2 := c2 b (by omega)
            exact ⟨fun e => by omega, fun e => absurd e r2⟩
          · rw [if_neg hci, h3 c (by omega) hci]
            exact hN.ker b c (by omega) (by omega)
    · have hra := hN.rng a (by omega)
      rw [if_neg (by rw [c3]; omega)]
      have hker : ∀ b : Nat, b < i + 1 → rd o1 (b : Int) = rd out ((if b = i then a else b : Nat) : Int) ∧ (if b = i then a else b) < i ∧ rd R ((if b = i then a else b : Nat) : Int) = rd R (b : Int) := fun b hb => by
        by_cases h : b = i
        · rw [if_pos h, h]; exact ⟨c3, c1, c2⟩
        · rw [if_neg h]; exact ⟨h3 b (by omega) h, by omega, rfl⟩
      refine refl2_spec hn R hR d (i + 1) q _ _ (by omega) hq2 ⟨h2, fun b hb => ?_, by have := hN.nxt; omega, fun b c hb hc => ?_⟩
      · obtain ⟨e1, e2, _⟩ := hker b hb
        rw [e1]; exact hN.rng _ e2
      · obtain ⟨e1, e2, e3⟩ := hker b hb
        obtain ⟨f1, f2, f3⟩ := hker c hc
        rw [e1, f1, hN.ker _ _ e2 f2, e3, f3]
theorem refl0_spec {n : Nat} (hn : n ≤ 1000) (P : Int) (le : List S60) (ac : List S62) : ∀ (d i k : Nat) (x : List Int), i + d = n → d < k → x.length = n → (∀ j : Nat, j < i → rd x (j : Int) = (j : Int)) → ∃ y, railplanref11_Components.l0 k x (n : Int) (i : Int) P le ac = railplanref11_Components.l1 (k - d - 1) y ((0 : Nat) : Int) P le ac ∧ y.length = n ∧ ∀ j : Nat, j < n → rd y (j : Int) = (j : Int)
  | 0, i, k, x, hi, hk, hl, h => by
    obtain ⟨k, rfl⟩ : ∃ m, k = m + 1 := ⟨k - 1, by omega⟩
    refine ⟨x, ?_, hl, fun j hj => h j (by omega)⟩
    simp only [railplanref11_Components.l0]
    rw [if_neg (by omega)]
    rfl
  | d + 1, i, k, x, hi, hk, hl, h => by
    obtain ⟨k, rfl⟩ : ∃ m, k = m + 1 := ⟨k - 1, by omega⟩
    obtain ⟨y, h1, h2, h3⟩ := refl0_spec hn P le ac d (i + 1) k (x.set i (i : Int)) (by omega) (by omega) (by rw [List.length_set]; exact hl) (ident_set hl (by omega) h)
    refine ⟨y, ?_, h2, h3⟩
    rw [show k + 1 - (d + 1) - 1 = k - d - 1 by omega, ← h1]
    simp only [railplanref11_Components.l0]
    rw [if_pos (by omega), if_pos (by omega), if_pos (by omega), wrap_succ i (by omega), Int.toNat_natCast]
/-- The reference's components tell the same classes as the program's labels. -/
theorem refcomp_spec {P : Int} {le : List S60} {ac : List S62} (hok : okNet P le ac = true) (k : Nat) (hk : 4000 ≤ k) : ∃ comp, railplanref11_Components.f k P le ac = some comp ∧ comp.length = le.length ∧ ∀ i j : Nat, i < le.length → j < le.length → (rd comp (i : Int) = rd comp (j : Int) ↔ labAll ac (fun i => (i : Int)) i = labAll ac (fun i => (i : Int)) j) := by
  obtain ⟨hP, hle, hac, hgood⟩ := okNet_good hok
  have hg : ∀ a ∈ ac, (0 ≤ a.f1 ∧ a.f1 < (le.length : Int)) ∧ 0 ≤ a.f2 ∧ a.f2 < (le.length : Int) := fun a ha => ⟨(hgood a ha).f1, (hgood a ha).f2⟩
  have hg2 : ∀ a ∈ ac, a.f1.toNat < le.length ∧ a.f2.toNat < le.length := fun a ha => by have := hg a ha; omega
  obtain ⟨x, h1, h2, h3⟩ := refl0_spec (n := le.length) (by omega) P le ac le.length 0 k (List.replicate le.length 0) (by omega) (by omega) List.length_replicate (fun j hj => absurd hj (by omega))
  obtain ⟨R, g1, g2, g3⟩ := refl1_spec (n := le.length) (by omega) (by omega) P le hg ac.length 0 (k - le.length - 1) x (by omega) (by omega) h2
  have hr0 : RNum le.length 0 R (List.replicate le.length 0) 0 := ⟨List.length_replicate, fun a ha => absurd ha (by omega), by omega, fun a b ha => absurd ha (by omega)⟩
  obtain ⟨q, hq⟩ : ∃ q, k - le.length - 1 - ac.length = q + 1 := ⟨k - le.length - 1 - ac.length - 1, by omega⟩
  have hb2 : (le.length + 3) * le.length < q := by
    have : (le.length + 3) * le.length ≤ 51 * 48 := Nat.mul_le_mul (by omega) (by omega)
    omega
  obtain ⟨comp, nx, f1, f2⟩ := refl2_spec (n := le.length) (by omega) R g2 le.length 0 q (List.replicate le.length 0) 0 (by omega) hb2 hr0
  refine ⟨comp, ?_, f2.len, fun i j hi hj => ?_⟩
  · unfold railplanref11_Components.f
    have hb : ((le.length : Int)).toNat ≤ 35184372088832 := by rw [Int.toNat_natCast]; omega
    rw [refcheck_f P le ac k (by omega), hok, obind, if_pos rfl, if_pos (by omega), if_pos hb, obind, Int.toNat_natCast, List.length_replicate]
    show railplanref11_Components.l0 k (List.replicate le.length 0) (le.length : Int) ((0 : Nat) : Int) P le ac = some comp
    rw [h1, g1, hq]
    simp only [railplanref11_Components.l1]
    have hb3 : ((R.length : Int)).toNat ≤ 35184372088832 := by rw [Int.toNat_natCast]; omega
    rw [if_neg (by omega), if_pos (by omega), if_pos hb3, Int.toNat_natCast, g2]
    exact f1
  · rw [f2.ker i j hi hj, g3 i j hi hj, List.drop_zero, labAll_ker ac _ hg2 i j hi hj]
    exact kerAll_congr ac hg2 (fun p q hp hq => by rw [h3 p hp, h3 q hq]) i j hi hj
/-- The cost with the slacks of a list of activities. -/
def fitsA (P : Int) (ts : List Int) : List S62 → Int → Option Int
  | [], s => some s
  | a :: al, s => if lastsF P a (rd ts a.f1) (rd ts a.f2) > a.f4 then none else fitsA P ts al (s + a.f5 * (lastsF P a (rd ts a.f1) (rd ts a.f2) - a.f3))
theorem fitsA_app (P : Int) (ts : List Int) : ∀ (l m : List S62) (s : Int), fitsA P ts (l ++ m) s = (fitsA P ts l s).bind (fitsA P ts m)
  | [], m, s => rfl
  | a :: l, m, s => by
    show (if _ then none else fitsA P ts (l ++ m) _) = (if _ then none else fitsA P ts l _).bind _
    split
    · rfl
    · exact fitsA_app P ts l m _
theorem fitsA_add (P : Int) (ts : List Int) : ∀ (l : List S62) (s c : Int), fitsA P ts l (s + c) = (fitsA P ts l s).map (· + c)
  | [], s, c => rfl
  | a :: l, s, c => by
    show (if _ then none else fitsA P ts l (s + c + _)) = (if _ then none else fitsA P ts l _).map _
    split
    · rfl
    · rw [← fitsA_add P ts l _ c]
      congr 1
      omega
theorem fitsF_app (P : Int) (ac : List S62) (ts : List Int) : ∀ (l m : List Int) (s : Int), fitsF P ac ts (l ++ m) s = (fitsF P ac ts l s).bind (fitsF P ac ts m)
  | [], m, s => rfl
  | k :: l, m, s => by
    show (if _ then none else fitsF P ac ts (l ++ m) _) = (if _ then none else fitsF P ac ts l _).bind _
    split
    · rfl
    · exact fitsF_app P ac ts l m _
theorem rdL_set (xs : List (List Int)) (j : Nat) (y : List Int) (e : Nat) (hj : j < xs.length) : rdL (xs.set j y) (e : Int) = if e = j then y else rdL xs (e : Int) := by
  unfold rdL
  rw [Int.toNat_natCast, List.getD_eq_getElem?_getD, List.getElem?_set, List.getD_eq_getElem?_getD]
  by_cases h : j = e
  · subst h
    simp [hj]
  · rw [if_neg h, if_neg (Ne.symm h)]
theorem take_snoc36 (ac : List S62) (i : Nat) (h : i < ac.length) : ac.take (i + 1) = ac.take i ++ [rd_T62 ac (i : Int)] := by
  rw [rd36g ac i h, List.take_succ_eq_append_getElem h]
/-- The rows of the finder are the activities by their later events. -/
theorem fits_rows (P : Int) (ac : List S62) (ts : List Int) (n : Nat) (hgood : ∀ a ∈ ac, GoodAct P n a) (e : Nat) : ∀ (m : Nat) (s : Int), m ≤ ac.length → fitsF P ac ts (rdL (rstep ac n m).1 (e : Int)) s = fitsA P ts ((ac.take m).filter (fun a => decide (late a = (e : Int)))) s
  | 0, s, _ => by
    have h0 : rdL (rstep ac n 0).1 (e : Int) = [] := by
      show (List.replicate n ([] : List Int)).getD _ [] = []
      rw [List.getD_eq_getElem?_getD, List.getElem?_replicate]
      split <;> rfl
    rw [h0, List.take_zero]
    rfl
  | m + 1, s, hm => by
    have ih := fun s => fits_rows P ac ts n hgood e m s (by omega)
    have hg := hgood _ (rd36' ac (m : Int) (by omega) (by omega))
    have hl0 : 0 ≤ late (rd_T62 ac (m : Int)) ∧ late (rd_T62 ac (m : Int)) < (n : Int) := by
      have := hg.f1; have := hg.f2
      unfold late; split <;> omega
    have hlen : (rstep ac n m).1.length = n := rstep_len ac n m
    rw [take_snoc36 ac m (by omega), List.filter_append, fitsA_app, ← ih]
    show fitsF P ac ts (rdL ((rstep ac n m).1.set (late (rd_T62 ac (m : Int))).toNat (rdL (rstep ac n m).1 (late (rd_T62 ac (m : Int))) ++ [(m : Int)])) (e : Int)) s = _
    rw [rdL_set _ _ _ _ (by omega)]
    by_cases he : e = (late (rd_T62 ac (m : Int))).toNat
    · rw [if_pos he]
      have he2 : late (rd_T62 ac (m : Int)) = (e : Int) := by omega
      rw [he2, fitsF_app]
      congr 1
      funext s'
      simp only [List.filter_cons, he2, List.filter_nil]
      rfl
    · rw [if_neg he]
      have he2 : ¬ late (rd_T62 ac (m : Int)) = (e : Int) := by omega
      simp only [List.filter_cons, List.filter_nil, decide_eq_false he2]
      cases fitsF P ac ts (rdL (rstep ac n m).1 (e : Int)) s <;> rfl
/-- The cost without slack. -/
def baseS : List S62 → Int
  | [] => 0
  | a :: al => a.f5 * a.f3 + baseS al
/-- The slacks' cost of the activities that were ready before event e. -/
def doneS (P : Int) (ts : List Int) (e : Int) : List S62 → Int
  | [] => 0
  | a :: al => (if late a < e then a.f5 * (lastsF P a (rd ts a.f1) (rd ts a.f2) - a.f3) else 0) + doneS P ts e al
theorem baseS_app : ∀ (l m : List S62), baseS (l ++ m) = baseS l + baseS m
  | [], m => by simp [baseS]
  | a :: l, m => by show _ + baseS (l ++ m) = _; rw [baseS_app l m]; show _ = a.f5 * a.f3 + baseS l + baseS m; omega
theorem rstep_base (ac : List S62) (n : Nat) : ∀ m, m ≤ ac.length → (rstep ac n m).2 = baseS (ac.take m)
  | 0, _ => rfl
  | m + 1, h => by
    rw [take_snoc36 ac m (by omega), baseS_app, ← rstep_base ac n m (by omega)]
    show (rstep ac n m).2 + _ = _
    simp [baseS]
/-- The activities that were ready before event e are satisfied. -/
def satS (P : Int) (ts : List Int) (e : Int) (al : List S62) : Prop := ∀ a ∈ al, late a < e → lastsF P a (rd ts a.f1) (rd ts a.f2) ≤ a.f4
theorem late_gt (a : S62) (i : Int) : (a.f1 > i ∨ a.f2 > i) ↔ late a > i := by unfold late; split <;> omega
theorem sumD_fits (P : Int) (ts : List Int) (e : Int) : ∀ (al : List S62) (s : Int), satS P ts e al → sumD P ts e al s = (fitsA P ts (al.filter (fun a => decide (late a = e))) 0).map (fun x => s + baseS al + doneS P ts e al + x)
  | [], s, _ => by simp [sumD, fitsA, baseS, doneS]
  | a :: al, s, h => by
    have ih := fun s => sumD_fits P ts e al s (fun b hb => h b (List.mem_cons_of_mem _ hb))
    unfold sumD
    by_cases h1 : late a > e
    · rw [if_pos ((late_gt a e).2 h1), ih]
      simp only [List.filter_cons, decide_eq_false (show ¬ late a = e by omega), baseS, doneS]
      rw [if_neg (show ¬ late a < e by omega)]
      congr 1
      funext x
      omega
    · rw [if_neg (fun hx => h1 ((late_gt a e).1 hx))]
      by_cases h2 : late a = e
      · simp only [List.filter_cons, decide_eq_true h2, baseS, doneS, if_true]
        unfold fitsA
        by_cases h3 : lastsF P a (rd ts a.f1) (rd ts a.f2) > a.f4
        · rw [if_pos h3, if_pos h3]; rfl
        · rw [if_neg h3, if_neg h3, ih, if_neg (show ¬ late a < e by omega), fitsA_add]
          cases fitsA P ts (al.filter (fun a => decide (late a = e))) 0 with
          | none => rfl
          | some x =>
            simp only [Option.map_some, Option.some.injEq]
            rw [Int.mul_sub]
            omega
      · have h4 : late a < e := by omega
        have h5 := h a List.mem_cons_self h4
        rw [if_neg (by omega), ih]
        simp only [List.filter_cons, decide_eq_false h2, baseS, doneS]
        rw [if_pos h4]
        congr 1
        funext x
        rw [Int.mul_sub]
        omega
/-- Two lists of times agree below event e. -/
def Agree (e : Nat) (ts us : List Int) : Prop := ∀ i : Int, 0 ≤ i → i < (e : Int) → rd ts i = rd us i
theorem Agree.refl (e : Nat) (ts : List Int) : Agree e ts ts := fun _ _ _ => rfl
theorem Agree.trans {e : Nat} {ts us vs : List Int} (h : Agree e ts us) (h' : Agree e us vs) : Agree e ts vs := fun i h0 h1 => (h i h0 h1).trans (h' i h0 h1)
theorem Agree.less {e e' : Nat} {ts us : List Int} (h : Agree e ts us) (he : e' ≤ e) : Agree e' ts us := fun i h0 h1 => h i h0 (by omega)
theorem Agree.set (e : Nat) (ts : List Int) (t : Int) (h : e < ts.length) : Agree e ts (ts.set e t) := fun i h0 h1 => by rw [rd_set ts e t i h h0 (by omega), if_neg (by omega)]
theorem lasts_agree {P : Int} {a : S62} {e : Nat} {ts us : List Int} (h : Agree e ts us) (h1 : 0 ≤ a.f1) (h2 : 0 ≤ a.f2) (hl : late a < (e : Int)) : lastsF P a (rd ts a.f1) (rd ts a.f2) = lastsF P a (rd us a.f1) (rd us a.f2) := by
  have : a.f1 < (e : Int) ∧ a.f2 < (e : Int) := by unfold late at hl; split at hl <;> omega
  rw [h _ h1 this.1, h _ h2 this.2]
theorem doneS_agree {P : Int} {e : Nat} {ts us : List Int} (h : Agree e ts us) : ∀ (al : List S62), (∀ a ∈ al, 0 ≤ a.f1 ∧ 0 ≤ a.f2) → doneS P ts (e : Int) al = doneS P us (e : Int) al
  | [], _ => rfl
  | a :: al, hg => by
    show (if _ then _ else _) + _ = (if _ then _ else _) + _
    rw [doneS_agree h al (fun b hb => hg b (List.mem_cons_of_mem _ hb))]
    by_cases hl : late a < (e : Int)
    · rw [if_pos hl, if_pos hl, lasts_agree h (hg a List.mem_cons_self).1 (hg a List.mem_cons_self).2 hl]
    · rw [if_neg hl, if_neg hl]
theorem satS_agree {P : Int} {e : Nat} {ts us : List Int} (h : Agree e ts us) {al : List S62} (hg : ∀ a ∈ al, 0 ≤ a.f1 ∧ 0 ≤ a.f2) (hs : satS P ts (e : Int) al) : satS P us (e : Int) al := fun a ha hl => by
  rw [← lasts_agree h (hg a ha).1 (hg a ha).2 hl]
  exact hs a ha hl
/-- A trial that fits: what was ready at e is satisfied, and counted. -/
theorem fits_next (P : Int) (ts : List Int) (e : Int) : ∀ (al : List S62) (x : Int), fitsA P ts (al.filter (fun a => decide (late a = e))) 0 = some x → satS P ts e al → satS P ts (e + 1) al ∧ doneS P ts (e + 1) al = doneS P ts e al + x
  | [], x, h, _ => by
    have := Option.some.inj h
    subst this
    exact ⟨fun a ha => absurd ha (by simp), rfl⟩
  | a :: al, x, h, hs => by
    have hs' : satS P ts e al := fun b hb => hs b (List.mem_cons_of_mem _ hb)
    by_cases h2 : late a = e
    · simp only [List.filter_cons, decide_eq_true h2, if_true] at h
      unfold fitsA at h
      by_cases h3 : lastsF P a (rd ts a.f1) (rd ts a.f2) > a.f4
      · rw [if_pos h3] at h; exact absurd h (by simp)
      · rw [if_neg h3, fitsA_add] at h
        obtain ⟨y, hy, hxy⟩ := Option.map_eq_some_iff.1 h
        obtain ⟨ih1, ih2⟩ := fits_next P ts e al y hy hs'
        refine ⟨fun b hb hl => ?_, ?_⟩
        · rcases List.mem_cons.1 hb with rfl | hb
          · omega
          · exact ih1 b hb hl
        · show (if _ then _ else _) + _ = (if _ then _ else _) + _ + _
          rw [if_pos (by omega), if_neg (by omega), ih2]
          omega
    · simp only [List.filter_cons, decide_eq_false h2] at h
      obtain ⟨ih1, ih2⟩ := fits_next P ts e al x h hs'
      refine ⟨fun b hb hl => ?_, ?_⟩
      · rcases List.mem_cons.1 hb with rfl | hb
        · exact hs b List.mem_cons_self (by omega)
        · exact ih1 b hb hl
      · show (if _ then _ else _) + _ = (if _ then _ else _) + _ + _
        by_cases h4 : late a < e
        · rw [if_pos (by omega), if_pos h4, ih2]; omega
        · rw [if_neg (by omega), if_neg h4, ih2]; omega
theorem costL_add (P : Int) (ts : List Int) : ∀ (al : List S62) (s : Int), costL P ts al s = s + costL P ts al 0
  | [], s => by simp [costL]
  | a :: al, s => by
    show costL P ts al _ = s + costL P ts al _
    rw [costL_add P ts al (s + _), costL_add P ts al (0 + _)]
    omega
/-- All activities are ready: the costs agree. -/
theorem cost_done (P : Int) (ts : List Int) (n : Int) : ∀ (al : List S62), (∀ a ∈ al, late a < n) → costL P ts al 0 = baseS al + doneS P ts n al
  | [], _ => rfl
  | a :: al, h => by
    show costL P ts al _ = (a.f5 * a.f3 + baseS al) + ((if _ then _ else _) + doneS P ts n al)
    rw [if_pos (h a List.mem_cons_self), costL_add, cost_done P ts n al (fun b hb => h b (List.mem_cons_of_mem _ hb)), Int.mul_sub]
    omega
/-- The two searches' states agree. -/
structure Rel (budget : Int) (st : St) (r : RSt) : Prop where
  left : st.left = budget - r.used
  nn : 0 ≤ st.left
  ts : st.ts = r.ts
  br : st.broken = false
  ov : r.over = false
  fd : st.found = r.found
  res : st.res = r.res
  cost : st.found = true → st.cost = r.best
/-- What has been done by event ev. -/
structure Done (P : Int) (ac : List S62) (n ev : Nat) (s : Int) (ts : List Int) : Prop where
  len : ts.length = n
  sat : satS P ts (ev : Int) ac
  sum : s = baseS ac + doneS P ts (ev : Int) ac
theorem Done.agree {P : Int} {ac : List S62} {n ev : Nat} {s : Int} {ts us : List Int} (h : Done P ac n ev s ts) (hg : ∀ a ∈ ac, 0 ≤ a.f1 ∧ 0 ≤ a.f2) (ha : Agree ev ts us) (hl : us.length = n) : Done P ac n ev s us :=
  ⟨hl, satS_agree ha hg h.sat, by rw [← doneS_agree ha ac hg]; exact h.sum⟩
/-- Both searches stop, or go on alike. -/
def Lock (budget : Int) (all : Bool) (n ev : Nat) (ts : List Int) (st' : St) (r' : RSt) (go : Bool) : Prop :=
  (st'.broken = true ∧ r'.over = true ∧ go = false) ∨ (Rel budget st' r' ∧ Agree ev ts st'.ts ∧ st'.ts.length = n ∧ go = !(st'.found && !all))
def LockT (budget : Int) (all : Bool) (n ev : Nat) (ts : List Int) (x : St × Bool) (y : RSt × Bool) : Prop :=
  x.2 = y.2 ∧ ((x.2 = true ∧ x.1.broken = true ∧ y.1.over = true) ∨ (Rel budget x.1 y.1 ∧ Agree ev ts x.1.ts ∧ x.1.ts.length = n ∧ x.2 = (x.1.found && !all)))
theorem lock_loop {budget : Int} {all : Bool} {n ev : Nat} {f : Int → St → St × Bool} {g : Int → RSt → RSt × Bool} {ts : List Int}
    (hs : ∀ t st r, Rel budget st r → Agree ev ts st.ts → st.ts.length = n → (st.found && !all) = false → LockT budget all n ev ts (f t st) (g t r)) :
    ∀ (d : Nat) (t : Int) (st : St) (r : RSt), Rel budget st r → Agree ev ts st.ts → st.ts.length = n → (st.found && !all) = false → Lock budget all n ev ts (loopF f d t st) (loopV g d t r).1 (loopV g d t r).2
  | 0, t, st, r, h, ha, hl, hf => .inr ⟨h, ha, hl, by show true = _; rw [show (loopF f 0 t st) = st from rfl, hf]; rfl⟩
  | d + 1, t, st, r, h, ha, hl, hf => by
    have h1 := hs t st r h ha hl hf
    unfold loopF loopV
    obtain ⟨h2, h3⟩ := h1
    by_cases hc : (f t st).2 = true
    · rw [if_pos hc, if_pos (by rw [← h2]; exact hc)]
      rcases h3 with ⟨_, h4, h5⟩ | ⟨h4, h5, h6, h7⟩
      · exact .inl ⟨h4, h5, rfl⟩
      · refine .inr ⟨h4, h5, h6, ?_⟩
        show false = !((f t st).1.found && !all)
        rw [← h7, hc]
        rfl
    · have hc' : (f t st).2 = false := by simpa using hc
      rw [if_neg hc, if_neg (by rw [← h2]; exact hc)]
      rcases h3 with ⟨h3, _⟩ | ⟨h4, h5, h6, h7⟩
      · rw [hc'] at h3; exact absurd h3 (by simp)
      · exact lock_loop hs d (t + 1) _ _ h4 h5 h6 (by rw [← h7]; exact hc')
theorem lock_step {P : Int} {n : Nat} {ac : List S62} {first : List Bool} {budget : Int} {all : Bool} (hgood : ∀ a ∈ ac, GoodAct P n a) :
    ∀ (k ev : Nat) (s : Int) (st : St) (r : RSt), ev ≤ n → ev + k = n + 1 → Rel budget st r → Done P ac n ev s st.ts → (st.found && !all) = false →
      Lock budget all n ev st.ts (extF P n ac first (rstep ac n ac.length).1 all k ev s st) (visitF P n ac first budget all k ev r).1 (visitF P n ac first budget all k ev r).2
  | 0, ev, s, st, r, h0, h1, _, _, _ => absurd h1 (by omega)
  | k + 1, ev, s, st, r, h0, h1, hR, hD, hf => by
    have hg2 : ∀ a ∈ ac, 0 ≤ a.f1 ∧ 0 ≤ a.f2 := fun a ha => ⟨(hgood a ha).f1.1, (hgood a ha).f2.1⟩
    unfold extF visitF
    by_cases hev : ev = n
    · rw [if_pos hev, if_pos hev]
      refine .inr ⟨⟨hR.left, hR.nn, hR.ts, hR.br, hR.ov, rfl, by show st.ts = r.ts; exact hR.ts, fun _ => ?_⟩, Agree.refl _ _, hD.len, by show all = !(true && !all); simp⟩
      show s = costL P r.ts ac 0
      have hlate : ∀ a ∈ ac, late a < (n : Int) := fun a ha => by
        have := (hgood a ha).f1; have := (hgood a ha).f2
        unfold late; split <;> omega
      rw [cost_done P r.ts (n : Int) ac hlate, ← hR.ts, ← hev]
      exact hD.sum
    · rw [if_neg hev, if_neg hev]
      refine lock_loop (fun t st1 r1 h2 h3 h4 h5 => ?_) _ 0 st r hR (Agree.refl _ _) hD.len hf
      have hev2 : ev < n := by omega
      unfold trialF trialV
      have hleft := h2.left
      have hnn := h2.nn
      by_cases hz : st1.left = 0
      · rw [if_pos hz, if_pos (show r1.used + 1 > budget by omega)]
        exact ⟨rfl, .inl ⟨rfl, rfl, rfl⟩⟩
      · rw [if_neg hz, if_neg (show ¬ r1.used + 1 > budget by omega)]
        have hts : st1.ts.set ev t = r1.ts.set ev t := by rw [h2.ts]
        have hag : Agree ev st.ts (st1.ts.set ev t) := h3.trans (Agree.set ev st1.ts t (by omega))
        have hln : (st1.ts.set ev t).length = n := by rw [List.length_set]; exact h4
        have hD2 := hD.agree hg2 hag hln
        have hrel : Rel budget { st1 with left := st1.left - 1, ts := st1.ts.set ev t } { r1 with used := r1.used + 1, ts := r1.ts.set ev t } :=
          ⟨by show st1.left - 1 = budget - (r1.used + 1); omega, by show 0 ≤ st1.left - 1; omega, hts, h2.br, h2.ov, h2.fd, h2.res, h2.cost⟩
        have hrow : fitsF P ac (st1.ts.set ev t) (rdL (rstep ac n ac.length).1 (ev : Int)) s = (fitsA P (st1.ts.set ev t) (ac.filter (fun a => decide (late a = (ev : Int)))) 0).map (· + s) := by
          rw [fits_rows P ac _ n hgood ev ac.length s (Nat.le_refl _), List.take_length, ← fitsA_add, Int.zero_add]
        have hsum : sumD P (st1.ts.set ev t) (ev : Int) ac 0 = (fitsA P (st1.ts.set ev t) (ac.filter (fun a => decide (late a = (ev : Int)))) 0).map (· + s) := by
          rw [sumD_fits P _ (ev : Int) ac 0 hD2.sat, hD2.sum]
          congr 1
          funext x
          omega
        rw [hrow]
        have hdisc : ∀ x, fitsA P (st1.ts.set ev t) (ac.filter (fun a => decide (late a = (ev : Int)))) 0 = x → discF P ac (r1.ts.set ev t) (ev : Int) all r1.found r1.best = match x.map (· + s) with | none => true | some s' => all && (r1.found && decide (s' ≥ r1.best)) := by
          intro x hx
          unfold discF
          rw [← hts, hsum, hx]
          cases x <;> rfl
        cases hx : fitsA P (st1.ts.set ev t) (ac.filter (fun a => decide (late a = (ev : Int)))) 0 with
        | none =>
          rw [hdisc none hx]
          simp only [Option.map_none, if_true]
          exact ⟨rfl, .inr ⟨hrel, hag, hln, h5.symm⟩⟩
        | some x =>
          rw [hdisc (some x) hx]
          simp only [Option.map_some]
          by_cases hskip : st1.found = true ∧ x + s ≥ st1.cost
          · have hall : all = true := by
              have := h5
              rw [hskip.1] at this
              simpa using this
            rw [if_pos hskip, if_pos (by rw [hall, ← h2.fd, hskip.1, decide_eq_true (by rw [← h2.cost hskip.1]; exact hskip.2)]; rfl)]
            exact ⟨rfl, .inr ⟨hrel, hag, hln, h5.symm⟩⟩
          · have hns : ¬ (all && (r1.found && decide (x + s ≥ r1.best))) = true := by
              intro hc
              simp only [Bool.and_eq_true, decide_eq_true_eq] at hc
              obtain ⟨_, hc1, hc2⟩ := hc
              rw [← h2.fd] at hc1
              exact hskip ⟨hc1, by rw [h2.cost hc1]; exact hc2⟩
            rw [if_neg hskip, if_neg hns]
            obtain ⟨n1, n2⟩ := fits_next P _ (ev : Int) ac x hx hD2.sat
            have hD3 : Done P ac n (ev + 1) (x + s) (st1.ts.set ev t) := ⟨hln, n1, by
              show x + s = baseS ac + doneS P _ ((ev : Int) + 1) ac
              rw [n2, hD2.sum]; omega⟩
            have ih := lock_step (first := first) (all := all) hgood k (ev + 1) (x + s) { st1 with left := st1.left - 1, ts := st1.ts.set ev t } { r1 with used := r1.used + 1, ts := r1.ts.set ev t } (by omega) (by omega) hrel hD3 h5
            rcases ih with ⟨i1, i2, i3⟩ | ⟨i1, i2, i3, i4⟩
            · refine ⟨?_, .inl ⟨?_, i1, i2⟩⟩
              · show (_ || _) = !_
                rw [i1, i3]; rfl
              · show (_ || _) = true
                rw [i1]; rfl
            · refine ⟨?_, .inr ⟨i1, hag.trans (i2.less (by omega)), i3, ?_⟩⟩
              · show (_ || _) = !_
                rw [i1.br, i4]; simp
              · show (_ || _) = _
                rw [i1.br]; rfl
theorem same_l0 (l : List Int) (hl : l.length ≤ 1000000) : ∀ (d i k : Nat), i + d = l.length → d < k → railplankeep_Same_int.l0 k l l (l.length : Int) (i : Int) = some true
  | 0, i, k, hi, hk => by
    obtain ⟨k, rfl⟩ : ∃ m, k = m + 1 := ⟨k - 1, by omega⟩
    simp only [railplankeep_Same_int.l0]
    rw [if_neg (by omega)]
  | d + 1, i, k, hi, hk => by
    obtain ⟨k, rfl⟩ : ∃ m, k = m + 1 := ⟨k - 1, by omega⟩
    simp only [railplankeep_Same_int.l0]
    rw [if_pos (by omega), if_pos (by omega), if_pos (by omega), if_pos (by omega), if_pos trivial, wrap_succ i (by omega)]
    exact same_l0 l hl d (i + 1) k (by omega) (by omega)
theorem same_f (l : List Int) (hl : l.length ≤ 1000000) (k : Nat) (hk : l.length < k) : railplankeep_Same_int.f k l l = some true := by
  unfold railplankeep_Same_int.f
  rw [if_pos rfl]
  exact same_l0 l hl l.length 0 k (by omega) hk
theorem loopV_keep {Q : RSt → Prop} {step : Int → RSt → RSt × Bool} (hs : ∀ t st, Q st → Q (step t st).1) : ∀ (d : Nat) (t : Int) (st : RSt), Q st → Q (loopV step d t st).1
  | 0, _, _, h => h
  | d + 1, t, st, h => by
    unfold loopV
    split
    · exact hs t st h
    · exact loopV_keep hs d (t + 1) _ (hs t st h)
theorem visitF_keep {P : Int} {n : Nat} {ac : List S62} {first : List Bool} {budget : Int} {all : Bool} : ∀ (k ev : Nat) (st : RSt), (st.ts.length = n ∧ st.res.length ≤ n) → (visitF P n ac first budget all k ev st).1.ts.length = n ∧ (visitF P n ac first budget all k ev st).1.res.length ≤ n
  | 0, _, _, h => h
  | k + 1, ev, st, h => by
    unfold visitF
    split
    · exact ⟨h.1, by show st.ts.length ≤ n; omega⟩
    · refine loopV_keep (Q := fun st => st.ts.length = n ∧ st.res.length ≤ n) (fun t st h => ?_) _ 0 st h
      unfold trialV
      split
      · exact h
      · split
        · exact ⟨by show (st.ts.set ev t).length = n; rw [List.length_set]; exact h.1, h.2⟩
        · exact visitF_keep k (ev + 1) _ ⟨by show (st.ts.set ev t).length = n; rw [List.length_set]; exact h.1, h.2⟩
theorem rstF_res (P : Int) (le : List S60) (ac : List S62) (comp : List Int) (budget : Int) (all : Bool) : (rstF P le ac comp budget all).res.length ≤ le.length :=
  (visitF_keep (le.length + 1) 0 _ ⟨List.length_replicate, by simp⟩).2
/-- What a search's state comes to. -/
def outR (st : RSt) : List Int × Int × Int × Int := if st.over = true then ([], 0, 0, 15) else if st.found = true then (st.res, st.best, st.used, 0) else ([], 0, st.used, 14)
theorem outR_res (P : Int) (le : List S60) (ac : List S62) (comp : List Int) (budget : Int) (all : Bool) : (outR (rstF P le ac comp budget all)).1.length ≤ le.length := by
  have := rstF_res P le ac comp budget all
  unfold outR
  split
  · simp
  · split
    · exact this
    · simp
theorem firsts_eq {n : Nat} {ρ : Nat → Int} {c1 c2 : List Int} (h1 : c1.length = n) (h2 : ∀ j : Nat, j < n → NumOk ρ j (rd c1 (j : Int))) (h3 : ∀ i j : Nat, i < n → j < n → (rd c2 (i : Int) = rd c2 (j : Int) ↔ ρ i = ρ j)) : (fstep c1 n n).1 = newF c2 n n := by
  have l1 := fstep_len c1 n n
  have l2 := newF_len c2 n n
  refine List.ext_getElem (by rw [l1, l2]) (fun j q1 q2 => ?_)
  have e1 := (fstep_spec h1 h2 n (Nat.le_refl _)).2 j (by omega)
  have e2 := newF_spec (n := n) c2 n (Nat.le_refl _) j (by omega)
  rw [List.getD_eq_getElem?_getD, List.getElem?_eq_getElem q1, Option.getD_some] at e1
  rw [List.getD_eq_getElem?_getD, List.getElem?_eq_getElem q2, Option.getD_some] at e2
  rw [e1, e2]
  congr 1
  exact (freshB_congr (σ := ρ) h3 j (by omega)).symm
/-- Both searches come to the same. -/
theorem state_eq {P : Int} {le : List S60} {ac : List S62} (hok : okNet P le ac = true) (budget : Int) (all : Bool) (hb : 1 ≤ budget ∧ budget ≤ 1048576) {c1 c2 : List Int} (hf : (fstep c1 le.length le.length).1 = newF c2 le.length le.length) : outF budget (stF P le ac c1 budget all) = outR (rstF P le ac c2 budget all) := by
  obtain ⟨hP, hle, hac, hgood⟩ := okNet_good hok
  have h := lock_step (P := P) (n := le.length) (ac := ac) (first := newF c2 le.length le.length) (budget := budget) (all := all) hgood (le.length + 1) 0 (rstep ac le.length ac.length).2 ⟨budget, List.replicate le.length 0, false, false, [], 0⟩ ⟨0, List.replicate le.length 0, false, false, [], 0⟩ (by omega) (by omega)
    ⟨by show budget = budget - 0; omega, by show 0 ≤ budget; omega, rfl, rfl, rfl, rfl, rfl, fun h => absurd h (by simp)⟩
    ⟨List.length_replicate, fun a ha hl => by
      have := (hgood a ha).f1; have := (hgood a ha).f2
      unfold late at hl
      split at hl <;> omega, by
      rw [rstep_base ac le.length ac.length (Nat.le_refl _), List.take_length]
      have : ∀ al : List S62, (∀ a ∈ al, a ∈ ac) → doneS P (List.replicate le.length 0) ((0 : Nat) : Int) al = 0 := by
        intro al
        induction al with
        | nil => intro _; rfl
        | cons a al ih =>
          intro hm
          show (if _ then _ else _) + doneS P (List.replicate le.length 0) ((0 : Nat) : Int) al = 0
          rw [ih (fun b hb => hm b (List.mem_cons_of_mem _ hb))]
          have := (hgood a (hm a List.mem_cons_self)).f1; have := (hgood a (hm a List.mem_cons_self)).f2
          rw [if_neg (by unfold late; split <;> omega)]
          rfl
      rw [this ac (fun a h => h)]
      omega⟩ rfl
  have e1 : stF P le ac c1 budget all = extF P le.length ac (newF c2 le.length le.length) (rstep ac le.length ac.length).1 all (le.length + 1) 0 (rstep ac le.length ac.length).2 ⟨budget, List.replicate le.length 0, false, false, [], 0⟩ := by unfold stF; rw [hf]
  have e2 : rstF P le ac c2 budget all = (visitF P le.length ac (newF c2 le.length le.length) budget all (le.length + 1) 0 ⟨0, List.replicate le.length 0, false, false, [], 0⟩).1 := rfl
  rw [← e1, ← e2] at h
  generalize stF P le ac c1 budget all = st at *
  generalize rstF P le ac c2 budget all = r at *
  unfold outF outR
  rcases h with ⟨h1, h2, _⟩ | ⟨h1, _, _, _⟩
  · rw [if_pos h1, if_pos h2]
  · rw [if_neg (show ¬ st.broken = true by rw [h1.br]; simp), if_neg (show ¬ r.over = true by rw [h1.ov]; simp)]
    have hw : wrap64 (budget - st.left) = r.used := by
      have := h1.left; have := h1.nn
      rw [h1.left]
      have h3 : budget - (budget - r.used) = r.used := by omega
      rw [h3]
      have := visitF_inv (ac := ac) (first := newF c2 le.length le.length) (budget := budget) (all := all) hP (le.length + 1) 0 ⟨0, List.replicate le.length 0, false, false, [], 0⟩ (by omega) (rinv_start P le.length budget hP.1 hb.1) (by show (0 : Int) ≤ budget; omega)
      rw [← e2] at this
      have hu := this.1.used
      unfold wrap64
      omega
    by_cases hf2 : st.found = true
    · rw [if_pos hf2, if_pos (show r.found = true by rw [← h1.fd]; exact hf2), hw, h1.res, h1.cost hf2]
    · rw [if_neg hf2, if_neg (show ¬ r.found = true by rw [← h1.fd]; exact hf2), hw]
/-- The program's search is the reference's. -/
theorem run_eq (P : Int) (le : List S60) (ac : List S62) (budget : Int) (all : Bool) (k : Nat) (hk : 4000 ≤ k) : search_run.f k P le ac budget all = if okNet P le ac = true then (if 1 ≤ budget ∧ budget ≤ 1048576 then (railplanref11_Components.f k P le ac).bind fun comp => if comp.length = le.length then some (outR (rstF P le ac comp budget all)) else none else some (([] : List Int), 0, 0, 4)) else some (([] : List Int), 0, 0, 1) := by
  unfold search_run.f
  by_cases hok : okNet P le ac = true
  · rw [if_pos hok, if_pos hok]
    by_cases hb : 1 ≤ budget ∧ budget ≤ 1048576
    · rw [if_pos hb, if_pos hb]
      obtain ⟨hP, hle, hac, hgood⟩ := okNet_good hok
      obtain ⟨c2, q1, q2, q3⟩ := refcomp_spec hok k hk
      obtain ⟨c1, p1, p2, p3⟩ := compF_spec (n := le.length) (ac := ac) (fun a ha => ⟨(hgood a ha).f1, (hgood a ha).f2⟩) (by omega) k (by omega)
      rw [p1, q1, Option.bind_some, Option.bind_some, if_pos p2, if_pos q2, state_eq hok budget all hb (firsts_eq p2 p3 q3)]
    · rw [if_neg hb, if_neg hb]
  · rw [if_neg hok, if_neg hok]
/-- What a search comes to, whatever the rounds. -/
theorem comp_fix {P : Int} {le : List S60} {ac : List S62} (hok : okNet P le ac = true) : ∃ comp, comp.length = le.length ∧ ∀ k, 4000 ≤ k → railplanref11_Components.f k P le ac = some comp := by
  obtain ⟨c, q1, q2, _⟩ := refcomp_spec hok 4000 (Nat.le_refl _)
  exact ⟨c, q2, fun k hk => at_rounds (g := fun k => railplanref11_Components.f k P le ac) (fun k => railplanref11_Components.mono _ _ _ k) hk q1⟩
theorem feas_eq (P : Int) (le : List S60) (ac : List S62) (budget : Int) (k : Nat) (hk : 4000 ≤ k) : search_Feasible.f k P le ac budget = railplanref17_Feasible.f k P le ac budget := by
  unfold search_Feasible.f railplanref17_Feasible.f
  rw [run_eq P le ac budget false k hk, if_neg (show ¬ k < 600 by omega)]
  by_cases hok : okNet P le ac = true
  · rw [if_pos hok, if_pos hok]
    by_cases hb : 1 ≤ budget ∧ budget ≤ 1048576
    · rw [if_pos hb, if_pos hb]
      obtain ⟨c, h1, h2⟩ := comp_fix hok
      rw [h2 k hk, Option.bind_some, Option.bind_some, if_pos h1, if_pos h1, Option.bind_some]
      congr 1
      unfold outR routF
      split
      · rfl
      · split <;> rfl
    · rw [if_neg hb, if_neg hb]; rfl
  · rw [if_neg hok, if_neg hok]; rfl
/-- What the reference's Feasible comes to, whatever the rounds. -/
theorem feas_fix (P : Int) (le : List S60) (ac : List S62) (budget : Int) : ∃ r, r.1.length ≤ 48 ∧ ∀ k, 4000 ≤ k → railplanref17_Feasible.f k P le ac budget = some r := by
  by_cases hok : okNet P le ac = true
  · by_cases hb : 1 ≤ budget ∧ budget ≤ 1048576
    · obtain ⟨c, h1, h2⟩ := comp_fix hok
      have hl := rstF_res P le ac c budget false
      have hle := (okNet_good hok).2.1
      refine ⟨routF (rstF P le ac c budget false), ?_, fun k hk => ?_⟩
      · unfold routF
        split
        · simp
        · split
          · show (rstF P le ac c budget false).res.length ≤ 48; omega
          · simp
      · unfold railplanref17_Feasible.f
        rw [if_neg (show ¬ k < 600 by omega), if_pos hok, if_pos hb, h2 k hk, Option.bind_some, if_pos h1]
    · exact ⟨([], 0, 4), by simp, fun k hk => by unfold railplanref17_Feasible.f; rw [if_neg (show ¬ k < 600 by omega), if_pos hok, if_neg hb]⟩
  · exact ⟨([], 0, 1), by simp, fun k hk => by unfold railplanref17_Feasible.f; rw [if_neg (show ¬ k < 600 by omega), if_neg hok]⟩
theorem solve_eq (P : Int) (le : List S60) (ac : List S62) (budget : Int) (k : Nat) (hk : 4000 ≤ k) : search_Solve.f k P le ac budget = railplanref17_Solve.f k P le ac budget := by
  unfold search_Solve.f railplanref17_Solve.f
  rw [run_eq P le ac budget true k hk, if_neg (show ¬ k < 600 by omega)]
  by_cases hok : okNet P le ac = true
  · rw [if_pos hok, if_pos hok]
    by_cases hb : 1 ≤ budget ∧ budget ≤ 1048576
    · rw [if_pos hb, if_pos hb]
      obtain ⟨c, h1, h2⟩ := comp_fix hok
      rw [h2 k hk, Option.bind_some, Option.bind_some, if_pos h1, if_pos h1, Option.bind_some]
      rfl
    · rw [if_neg hb, if_neg hb]; rfl
  · rw [if_neg hok, if_neg hok]; rfl
theorem solve_fix (P : Int) (le : List S60) (ac : List S62) (budget : Int) : ∃ r, r.1.length ≤ 48 ∧ ∀ k, 4000 ≤ k → railplanref17_Solve.f k P le ac budget = some r := by
  by_cases hok : okNet P le ac = true
  · by_cases hb : 1 ≤ budget ∧ budget ≤ 1048576
    · obtain ⟨c, h1, h2⟩ := comp_fix hok
      have hl := rstF_res P le ac c budget true
      have hle := (okNet_good hok).2.1
      refine ⟨routS (rstF P le ac c budget true), ?_, fun k hk => ?_⟩
      · unfold routS
        split
        · simp
        · split
          · show (rstF P le ac c budget true).res.length ≤ 48; omega
          · simp
      · unfold railplanref17_Solve.f
        rw [if_neg (show ¬ k < 600 by omega), if_pos hok, if_pos hb, h2 k hk, Option.bind_some, if_pos h1]
    · exact ⟨([], 0, 0, 4), by simp, fun k hk => by unfold railplanref17_Solve.f; rw [if_neg (show ¬ k < 600 by omega), if_pos hok, if_neg hb]⟩
  · exact ⟨([], 0, 0, 1), by simp, fun k hk => by unfold railplanref17_Solve.f; rw [if_neg (show ¬ k < 600 by omega), if_neg hok]⟩
theorem agrees_f (P : Int) (le : List S60) (ac : List S62) (budget : Int) (k : Nat) (hk : 4000 ≤ k) : railplanlaw17_agrees.f k P le ac budget = some true := by
  unfold railplanlaw17_agrees.f
  obtain ⟨r, h1, h2⟩ := feas_fix P le ac budget
  obtain ⟨s, h3, h4⟩ := solve_fix P le ac budget
  rw [feas_eq P le ac budget k hk, solve_eq P le ac budget k hk, h2 k hk, h4 k hk]
  simp only [Option.bind_some]
  rw [same_f r.1 (by omega) k (by omega), same_f s.1 (by omega) k (by omega)]
  simp
theorem awake17_f (k : Nat) (hk : 60 ≤ k) : railplanlaw17_awake.f k = some true := at_rounds (g := railplanlaw17_awake.f) (fun k => railplanlaw17_awake.mono k) hk (by decide +kernel)
end Go.Proofs.Ytpioelilfhkfdaa.SearchMath
