-- This session's own text, written by wip/tools/xall.py after the form of the kit's print.
import Derived.Test.YtnmhdeibjglhcaaXAllx0
import Derived.Test.YtnmhdeibjglhcaaXAllx2
import Derived.Test.YtnmhdeibjglhcaaXAllx3
import Derived.Test.YtnmhdeibjglhcaaXAllx5
import Derived.Test.YtnmhdeibjglhcaaXAllx7
namespace Go.Proofs.Ytnmhdeibjglhcaa.XAll
open Go.RowKit Go.Proofs.YtnmhdeibjglhcaaW.PrintWords Go.Proofs.YtnmhdeibjglhcaaW.PrintLast Go.Proofs.YtnmhdeibjglhcaaW.PrintMore
attribute [local go_sem] max2_int min2_int max_two min_two max_three min_three max_four min_four   -- for this text's walks alone
set_option linter.unusedVariables false
set_option linter.unusedSimpArgs false

/-! ### maxplus_Star: function 35 -/
namespace StarLib
def rdL (xs : List (List Int)) (i : Int) : List Int := xs.getD i.toNat ([] : List Int)
/-- An entry of a matrix of the call's own: read, and stored into. -/
theorem mat_put {W : World} {base n cap : Nat} {ok : Nat → Prop} {R : Nat} {xs : List (List Int)} (HO : Kd.S (Kd.slice 3 (Kd.int .i64)) 22 W base ok (.slice (some ⟨R, 0, none⟩) n cap) xs) (i j : Nat) (hi : i < n) (hj : j < (rdL xs (i : Int)).length) :
  ∃ (h c : Nat), W.cell? ⟨R, i, none⟩ = some (.slice (some ⟨h, 0, none⟩) (rdL xs (i : Int)).length c) ∧ W.cell? ⟨h, j, none⟩ = some (.int .i64 (rd (rdL xs (i : Int)) (j : Int))) ∧ W.frozen? ⟨h, j, none⟩ = false ∧ base ≤ h ∧ h < W.heap.size ∧ (∃ cells, W.heap[h]? = some (.cells cells 3 (0, 0))) ∧
   ∀ x, Kd.S (Kd.slice 3 (Kd.int .i64)) 22 (W.setCell ⟨h, j, none⟩ (.int .i64 x)) base ok (.slice (some ⟨R, 0, none⟩) n cap) (xs.set i ((rdL xs (i : Int)).set j x)) := by
 obtain ⟨oki, c, hcl, hM, hcc, hok, hbk⟩ := Kd.S_borrow HO [] (i : Int) (by omega) (by omega)
 obtain ⟨v, rfl, hR⟩ := hM
 have hR' : Kd.R (Kd.int .i64) 3 W base oki v (rdL xs (i : Int)) := hR
 obtain ⟨h, c, rfl, h1, h2, h3⟩ := Kd.R_form hR' (by omega)
 have hv := hcc 0 _ rfl
 rw [Nat.add_zero, show ((Kd.slice 3 (Kd.int .i64))).sz = 1 from rfl, Nat.mul_one, Int.toNat_natCast] at hv
 obtain ⟨k1, k2⟩ := Kd.R_celln 0 hR' (j : Int) (by omega) (by omega)
 rw [Int.toNat_natCast] at k1 k2
 refine ⟨h, c, by rwa [add_plain] at hv, k1, k2, h1, h2, h3, fun x => ?_⟩
 obtain ⟨p1, p2⟩ := Kd.R_putg hR' (j : Int) x
 rw [Int.toNat_natCast] at p1 p2
 have := hbk (x' := (rdL xs (i : Int)).set j x) p2 (fun k hk => by obtain rfl := Option.some.inj hk; exact hR'.1 h (by simp [Value.ownBlock])) ⟨_, rfl, p1⟩
 rwa [Int.toNat_natCast] at this
theorem C_some {α : Type} {d : Kd α} {W : World} {A : Option Addr} {n : Nat} {xs : List α} (h : d.C W A n xs) (hn : 0 < n) : ∃ ad, A = some ad := by
 obtain ⟨ad, e, _⟩ := h.2.2 hn
 exact ⟨ad, e⟩
/-- A row of a matrix that is read. -/
theorem mat_row {W : World} {ad : Addr} {n : Nat} {xs : List (List Int)} (h : Kd.C (Kd.slice 3 (Kd.int .i64)) W (some ad) n xs) (i : Nat) (hi : i < n) : ∃ A0 c0, W.cell? (ad.add i) = some (.slice A0 (rdL xs (i : Int)).length c0) ∧ (rdL xs (i : Int)).length ≤ c0 ∧ (Kd.int .i64).C W A0 (rdL xs (i : Int)).length (rdL xs (i : Int)) := by
 obtain ⟨ad, c, e, _, hK, hc0⟩ := Kd.C_get h ([] : List Int) (i : Int) (by omega) (by omega)
 obtain rfl := Option.some.inj e
 have hc : ∀ j u, c[j]? = some u → W.cell? (ad.add (i * 1 + j)) = some u := fun j u hj => hc0 j u hj
 obtain ⟨A0, c0, rfl, l0, g0⟩ := hK
 exact ⟨A0, c0, by have hq := hc 0 _ rfl; rwa [Nat.mul_one, Nat.add_zero] at hq, l0, g0⟩
theorem mat_at {W : World} {ad : Addr} {n : Nat} {l : List Int} (h : Kd.C (Kd.int .i64) W (some ad) n l) (j : Nat) (hj : j < n) : W.cell? (ad.add j) = some (.int .i64 (rd l (j : Int))) := by
 obtain ⟨ad, e, hc⟩ := Kd.at_int h (j : Int) (by omega) (by omega)
 obtain rfl := Option.some.inj e
 rwa [Int.toNat_natCast] at hc
/-- A block of Booleans. -/
theorem bools_cell {w : World} {B : Nat} {bs : List Bool} (h : w.heap[B]? = some (.cells (bs.map Value.bool).toArray 4 (0, 0))) (i : Nat) (hi : i < bs.length) : w.cell? ⟨B, i, none⟩ = some (.bool (rdOf false bs (i : Int))) := by
 rw [blk_cell h]
 unfold rdOf
 simp [List.getElem?_eq_getElem hi, List.getD_eq_getElem?_getD]
theorem bools_set {w : World} {B : Nat} {bs : List Bool} (h : w.heap[B]? = some (.cells (bs.map Value.bool).toArray 4 (0, 0))) (i : Nat) (b : Bool) : (w.setCell ⟨B, i, none⟩ (.bool b)).heap[B]? = some (.cells ((bs.set i b).map Value.bool).toArray 4 (0, 0)) := by
 have := blk_set h i (.bool b)
 simpa [List.map_set] using this
theorem bools_made (n : Nat) : madeCells #[Value.bool false] n = ((List.replicate n false).map Value.bool).toArray := by
 apply Array.toList_inj.1
 rw [toList_madeCells_one]
 simp
/-- As mat_put; the block is one of the row's own. -/
theorem mat_putN {W : World} {base n cap : Nat} {ok : Nat → Prop} {R : Nat} {xs : List (List Int)} (HO : Kd.S (Kd.slice 3 (Kd.int .i64)) 22 W base ok (.slice (some ⟨R, 0, none⟩) n cap) xs) (i j : Nat) (hi : i < n) (hj : j < (rdL xs (i : Int)).length) :
  ∃ (h c : Nat), W.cell? ⟨R, i, none⟩ = some (.slice (some ⟨h, 0, none⟩) (rdL xs (i : Int)).length c) ∧ W.cell? ⟨h, j, none⟩ = some (.int .i64 (rd (rdL xs (i : Int)) (j : Int))) ∧ W.frozen? ⟨h, j, none⟩ = false ∧ base ≤ h ∧ h < W.heap.size ∧ ok h ∧
   ∀ x, Kd.S (Kd.slice 3 (Kd.int .i64)) 22 (W.setCell ⟨h, j, none⟩ (.int .i64 x)) base ok (.slice (some ⟨R, 0, none⟩) n cap) (xs.set i ((rdL xs (i : Int)).set j x)) := by
 obtain ⟨oki, c, hcl, hM, hcc, hok, hbk⟩ := Kd.S_borrow HO [] (i : Int) (by omega) (by omega)
 obtain ⟨v, rfl, hR⟩ := hM
 have hR' : Kd.R (Kd.int .i64) 3 W base oki v (rdL xs (i : Int)) := hR
 obtain ⟨h, c, rfl, h1, h2, h3⟩ := Kd.R_form hR' (by omega)
 have hv := hcc 0 _ rfl
 rw [Nat.add_zero, show ((Kd.slice 3 (Kd.int .i64))).sz = 1 from rfl, Nat.mul_one, Int.toNat_natCast] at hv
 obtain ⟨k1, k2⟩ := Kd.R_celln 0 hR' (j : Int) (by omega) (by omega)
 rw [Int.toNat_natCast] at k1 k2
 have hoh := hR'.1 h (by simp [Value.ownBlock])
 refine ⟨h, c, by rwa [add_plain] at hv, k1, k2, h1, h2, (hok h hoh).1, fun x => ?_⟩
 obtain ⟨p1, p2⟩ := Kd.R_putg hR' (j : Int) x
 rw [Int.toNat_natCast] at p1 p2
 have := hbk (x' := (rdL xs (i : Int)).set j x) p2 (fun k hk => by obtain rfl := Option.some.inj hk; exact hoh) ⟨_, rfl, p1⟩
 rwa [Int.toNat_natCast] at this
/-- A younger row is not touched by a store into an elder block. -/
theorem mat_below {W : World} {base : Nat} {v : Value} {xs : List (List Int)} (h : Kd.S (Kd.slice 3 (Kd.int .i64)) 22 W base (fun _ => True) v xs) {b j : Nat} (hb : True ∧ b < base) (z : Int) : Kd.S (Kd.slice 3 (Kd.int .i64)) 22 (W.setCell ⟨b, j, none⟩ (.int .i64 z)) base (fun _ => True) v xs :=
 Kd.S_mono (Kd.S_far (p := ⟨b, j, none⟩) (Kd.S_bound h) (fun k hk => by have h1 := hk.2.1; have h2 := hb.2; show k ≠ b; omega) (.int .i64 z)) (fun _ _ => trivial)
theorem mat_off {W : World} {base R n c : Nat} {xs : List (List Int)} (h : Kd.S (Kd.slice 3 (Kd.int .i64)) 22 W base (fun _ => True) (.slice (some ⟨R, 0, none⟩) n c) xs) {b : Nat} (hb : True ∧ b < base) : R ≠ b := by
 have := Kd.S_base h R (by simp [Value.ownBlock])
 have := hb.2
 omega
theorem cell_far {W : World} {R i b j : Nat} {v u : Value} (h : W.cell? ⟨R, i, none⟩ = some v) (hne : R ≠ b) : (W.setCell ⟨b, j, none⟩ u).cell? ⟨R, i, none⟩ = some v := by
 have hh := Below.heap_setCell W ⟨b, j, none⟩ u R hne
 have e : ∀ W : World, W.cell? ⟨R, i, none⟩ = (W.heap[R]?).bind fun o => World.cell? { W with heap := W.heap } ⟨R, i, none⟩ := fun W => by
  cases hq : W.heap[R]? with
  | none => simp [World.cell?, hq]
  | some o => rfl
 unfold World.cell? at h ⊢
 simp only at h ⊢
 rw [hh]
 exact h
theorem mat_drew {W : World} {base b j : Nat} {ok : Nat → Prop} {v u : Value} {xs : List (List Int)} (h : Kd.S (Kd.slice 3 (Kd.int .i64)) 22 (W.setCell ⟨b, j, none⟩ u) base ok v xs) : Kd.S (Kd.slice 3 (Kd.int .i64)) 22 (W.drew.setCell ⟨b, j, none⟩ u) base ok v xs :=
 Kd.S_step h (fun k _ _ => by rfl)
theorem mx_gt {a b : Int} (h : a < b) : mx a b = b := if_pos h
theorem mx_le {a b : Int} (h : b ≤ a) : mx a b = a := if_neg (by omega)
/-- A square matrix of a permitted size. -/
def sqB (n : Nat) (m : List (List Int)) : Bool := decide (1 ≤ n) && decide (n ≤ 1000) && decide (m.length = n) && m.all (fun r => decide (r.length = n))
def SqP (n : Nat) (m : List (List Int)) : Prop := m.length = n ∧ ∀ i : Nat, i < n → (rdL m (i : Int)).length = n
theorem sqB_P {n : Nat} {m : List (List Int)} (h : sqB n m = true) : 1 ≤ n ∧ n ≤ 1000 ∧ SqP n m := by
 unfold sqB at h
 simp only [Bool.and_eq_true, decide_eq_true_eq, List.all_eq_true] at h
 obtain ⟨⟨⟨h1, h2⟩, h3⟩, h4⟩ := h
 refine ⟨h1, h2, h3, fun i hi => ?_⟩
 unfold rdL
 rw [Int.toNat_natCast, List.getD_eq_getElem?_getD, List.getElem?_eq_getElem (show i < m.length by omega)]
 exact h4 _ (List.getElem_mem _)
theorem rdL_set {m : List (List Int)} {i : Nat} (x : List Int) (j : Nat) (hi : i < m.length) : rdL (m.set i x) (j : Int) = if j = i then x else rdL m (j : Int) := by
 unfold rdL
 rw [Int.toNat_natCast, List.getD_eq_getElem?_getD, List.getElem?_set, List.getD_eq_getElem?_getD]
 by_cases e : j = i
 ·subst e
  simp [hi]
 ·rw [if_neg (fun h => e h.symm), if_neg e]
/-- A region that draws: all but its last operations read; the world under a name of its own. -/
theorem still_tail {P : Program} {id : Nat} {Q : Exit → Act → World → Prop} {a : Act} {w : World} {l : List Oper} (n : Nat) (hm : P.follows .mixedOrders = true) (hB : Region.lexTailB .any l.toArray n = true)
  (h : ∀ wd : World, wd = w.drew → wpStill P l.toArray wd (fun a' => wpList P l.toArray Q (l.drop n) a' wd) (l.take n) a) : (Code.region id l.toArray true).wp P Q a w :=
 wp_region_still_tail n hm hB (h _ rfl)
def maxStep (p : List (List Int)) (i j : Nat) (m : List (List Int)) : List (List Int) := m.set i ((rdL m (i : Int)).set j (mx (rd (rdL m (i : Int)) (j : Int)) (rd (rdL p (i : Int)) (j : Int))))
def maxIn (p : List (List Int)) (i : Nat) : Nat → List (List Int) → List (List Int)
 | 0, m => m
 | j + 1, m => maxStep p i j (maxIn p i j m)
/-- The greater entries, the first rows. -/
def maxOut (p : List (List Int)) (n : Nat) : Nat → List (List Int) → List (List Int)
 | 0, m => m
 | i + 1, m => maxIn p i n (maxOut p n i m)
theorem maxStep_sq {p m : List (List Int)} {n i j : Nat} (h : SqP n m) (hi : i < n) : SqP n (maxStep p i j m) := by
 unfold maxStep
 refine ⟨by rw [List.length_set]; exact h.1, fun q hq => ?_⟩
 rw [rdL_set _ _ (by rw [h.1]; exact hi)]
 split
 ·rw [List.length_set]; exact h.2 i hi
 ·exact h.2 q hq
theorem maxIn_sq {p m : List (List Int)} {n i : Nat} (h : SqP n m) (hi : i < n) : ∀ j, SqP n (maxIn p i j m)
 | 0 => h
 | j + 1 => maxStep_sq (maxIn_sq h hi j) hi
theorem maxOut_sq {p m : List (List Int)} {n : Nat} (h : SqP n m) : ∀ i, i ≤ n → SqP n (maxOut p n i m)
 | 0, _ => h
 | i + 1, hi => maxIn_sq (maxOut_sq h i (by omega)) (by omega) _
end StarLib
open StarLib
def starLoop (k : Nat) (l0 : List (List Int)) (n : Nat) : Nat → Nat → List (List Int) → Option (List (List Int) × Int)
 | 0, _, b => some (b, 0)
 | q + 1, i, b => (maxplus_Power.f k l0 (i : Int)).bind fun p => if p.2 = 0 then (if sqB n p.1 = true then starLoop k l0 n q (i + 1) (maxOut p.1 n n b) else none) else some (([] : List (List Int)), p.2)
def starTail (k : Nat) (l0 m : List (List Int)) : Option (List (List Int) × Int) :=
 if sqB l0.length l0 = true then (if sqB l0.length m = true then starLoop k l0 l0.length l0.length 0 m else none) else none
def maxplus_Star.f (k : Nat) (l0 : List (List Int)) : Option ((List (List Int)) × Int) :=
 (maxplus_Check.f k l0).bind fun t => if t = true then ((maxplus_Mean.f k l0).bind fun u => if u.2.2 = true ∧ u.1 > 0 then some (([] : List (List Int)), 14) else (maxplus_matrix.f k (l0.length : Int) (l0.length : Int)).bind fun m => starTail k l0 m) else some (([] : List (List Int)), 1)
theorem starLoop_mono (k : Nat) (l0 : List (List Int)) (n : Nat) : ∀ q i b, LeO (starLoop k l0 n q i b) (starLoop (k + 1) l0 n q i b)
 | 0, _, _ => LeO.refl _
 | q + 1, i, b => by
  unfold starLoop
  exact LeO.bind (maxplus_Power.mono _ _ _) (fun p => LeO.ite (LeO.ite (starLoop_mono k l0 n q _ _) (LeO.refl _)) (LeO.refl _))
theorem maxplus_Star.mono : ∀ a0 k, LeO (maxplus_Star.f k a0) (maxplus_Star.f (k + 1) a0) := by
 intro a0 k
 unfold maxplus_Star.f
 refine LeO.bind (maxplus_Check.mono _ _) (fun t => LeO.ite (LeO.bind (maxplus_Mean.mono _ _) (fun u => LeO.ite (LeO.refl _) (LeO.bind (maxplus_matrix.mono _ _ _) (fun m => ?_)))) (LeO.refl _))
 unfold starTail
 exact LeO.ite (LeO.ite (starLoop_mono _ _ _ _ _ _) (LeO.refl _)) (LeO.refl _)
theorem starTail_inv {k : Nat} {l0 m : List (List Int)} {r : List (List Int) × Int} (h : starTail k l0 m = some r) : sqB l0.length l0 = true ∧ sqB l0.length m = true ∧ starLoop k l0 l0.length l0.length 0 m = some r := by
 unfold starTail at h
 by_cases h1 : sqB l0.length l0 = true
 ·rw [if_pos h1] at h
  by_cases h2 : sqB l0.length m = true
  ·rw [if_pos h2] at h
   exact ⟨h1, h2, h⟩
  ·rw [if_neg h2] at h; exact absurd h (by simp)
 ·rw [if_neg h1] at h; exact absurd h (by simp)
theorem starLoop_inv {k : Nat} {l0 b : List (List Int)} {n q i : Nat} {r : List (List Int) × Int} (h : starLoop k l0 n (q + 1) i b = some r) : ∃ p e, maxplus_Power.f k l0 (i : Int) = some (p, e) ∧ ((e = 0 ∧ sqB n p = true ∧ starLoop k l0 n q (i + 1) (maxOut p n n b) = some r) ∨ (¬ e = 0 ∧ r = ([], e))) := by
 unfold starLoop at h
 cases h2 : maxplus_Power.f k l0 (i : Int) with
 | none => rw [h2] at h; exact absurd h (by simp)
 | some t =>
  obtain ⟨p, e⟩ := t
  rw [h2] at h
  refine ⟨p, e, rfl, ?_⟩
  have h' : (if e = 0 then (if sqB n p = true then starLoop k l0 n q (i + 1) (maxOut p n n b) else none) else some (([] : List (List Int)), e)) = some r := h
  by_cases he : e = 0
  ·rw [if_pos he] at h'
   by_cases hs : sqB n p = true
   ·rw [if_pos hs] at h'
    exact .inl ⟨he, hs, h'⟩
   ·rw [if_neg hs] at h'; exact absurd h' (by simp)
  ·rw [if_neg he] at h'
   exact .inr ⟨he, (Option.some.inj h').symm⟩
set_option maxHeartbeats 4000000 in
set_option maxRecDepth 100000 in
theorem maxplus_Star.calls (k : Nat) (A0 : Option Addr) (c0 : Nat) (l0 : List (List Int)) (r1 : List (List Int)) (r2 : Int) (w : World) (hr0 : Kd.C (Kd.slice 3 (Kd.int .i64)) w A0 l0.length l0) (hc0 : l0.length ≤ c0) (h : maxplus_Star.f k l0 = some (r1, r2)) :
  Calls Try.prog 35 #[.slice A0 l0.length c0] w fun e w' => ∃ v0_ : Value, e = .returned (.tuple #[v0_, .int .i64 r2]) ∧ Kd.S (Kd.slice 3 (Kd.int .i64)) 22 w' w.heap.size (fun _ => True) v0_ r1 ∧ Below w.heap.size w w' := by
 unfold maxplus_Star.f at h
 cases hck : maxplus_Check.f k l0 with
 | none => rw [hck] at h; exact absurd h (by simp)
 | some t =>
  rw [hck] at h
  have HC := Aside0.mk (maxplus_Check.calls k A0 c0 l0 t w hr0 hc0 hck)
  cases t with
  | false =>
   have h2 : (([] : List (List Int)), (1 : Int)) = (r1, r2) := Option.some.inj h
   obtain ⟨rfl, rfl⟩ := Prod.mk.inj h2
   clear h h2 hck hr0 hc0
   go_enter Try.func35, Try.ntmps35
   go_wp2_with (go_at_call 30; refine HC.out.mono ?_; rintro e w' ⟨rfl, hd⟩; obtain ⟨nq, rfl⟩ := hd)
   go_ret2
   exact ⟨_, rfl, Kd.S_nil _ _ _ _ _, by repeat (first | exact Below.refl _ _ | apply pw_below_drewN | apply below_drew1)⟩
  | true =>
   have h1 : ((maxplus_Mean.f k l0).bind fun u => if u.2.2 = true ∧ u.1 > 0 then some (([] : List (List Int)), 14) else (maxplus_matrix.f k (l0.length : Int) (l0.length : Int)).bind fun m => starTail k l0 m) = some (r1, r2) := h
   clear h hck
   cases hme : maxplus_Mean.f k l0 with
   | none => rw [hme] at h1; exact absurd h1 (by simp)
   | some u =>
    obtain ⟨num, den, ok⟩ := u
    rw [hme] at h1
    have h2 : (if ok = true ∧ num > 0 then some (([] : List (List Int)), (14 : Int)) else (maxplus_matrix.f k (l0.length : Int) (l0.length : Int)).bind fun m => starTail k l0 m) = some (r1, r2) := h1
    clear h1
    have HME := Aside0.mk (fun W h1 => maxplus_Mean.calls k A0 c0 l0 num den ok W h1 hc0 hme)
    have HR := Aside0.mk hr0
    have HC0 := Aside0.mk hc0
    clear hme
    by_cases hpos : ok = true ∧ num > 0
    ·rw [if_pos hpos] at h2
     obtain ⟨rfl, rfl⟩ := Prod.mk.inj (Option.some.inj h2)
     obtain ⟨rfl, hnum⟩ := hpos
     have hnb : decide (num > 0) = true := decide_eq_true hnum
     clear h2 hr0 hc0
     go_enter Try.func35, Try.ntmps35
     go_wp2_with (first | (go_at_call 30; refine HC.out.mono ?_; rintro e w' ⟨rfl, hd⟩; obtain ⟨nq, rfl⟩ := hd) | (go_at_call 20; refine (HME.out _ (Kd.C_drewN HR.out _)).mono ?_; rintro e w2 ⟨rfl, hd2⟩))
     go_ret2
     exact ⟨_, rfl, Kd.S_nil _ _ _ _ _, below_step (pw_below_drewN (Below.refl _ _) _) hd2⟩
    ·rw [if_neg hpos] at h2
     cases hm : maxplus_matrix.f k (l0.length : Int) (l0.length : Int) with
     | none => rw [hm] at h2; exact absurd h2 (by simp)
     | some m =>
      rw [hm] at h2
      obtain ⟨hs0, hs1, hst⟩ := starTail_inv (show starTail k l0 m = some (r1, r2) from h2)
      obtain ⟨hn1, hn2, hq0⟩ := sqB_P hs0
      obtain ⟨_, _, hq1⟩ := sqB_P hs1
      have HM := Aside0.mk (fun W => maxplus_matrix.calls k (l0.length : Int) (l0.length : Int) m W hm)
      have HPW := Aside0.mk (fun W h1 (i : Nat) p e hp => maxplus_Power.calls k A0 c0 l0 (i : Int) p e W h1 hc0 hp)
      have HQ0 := Aside0.mk hq0
      have HQ1 := Aside0.mk hq1
      have HST := Aside0.mk hst
      have HPOS : Aside0 ((ok && decide (num > 0)) = false) := ⟨by
       cases hok : ok with
       | false => rfl
       | true => simp only [Bool.true_and]; exact decide_eq_false (fun hg => hpos ⟨hok, hg⟩)⟩
      clear h2 hm hs0 hs1 hst hq0 hq1 hc0 hr0 hpos
      obtain ⟨B0, hB0⟩ : ∃ B0, B0 = w.heap.size := ⟨_, rfl⟩
      have HBZ := Aside0.mk hB0
      clear hB0
      suffices hrest : ∀ ok' num', (ok' && decide (num' > 0)) = false → ok' = ok → num' = num → Calls Try.prog 35 #[.slice A0 l0.length c0] w (fun e w' => ∃ v0_ : Value, e = .returned (.tuple #[v0_, .int .i64 r2]) ∧ Kd.S (Kd.slice 3 (Kd.int .i64)) 22 w' w.heap.size (fun _ => True) v0_ r1 ∧ Below w.heap.size w w') from hrest ok num HPOS.out rfl rfl
      intro ok' num' hpo e1 e2
      subst e1 e2
      clear HPOS
      go_enter Try.func35, Try.ntmps35
      cases ok'
      all_goals (try have hnb : decide (num' > 0) = false := by simpa using hpo)
      all_goals
       clear hpo
       go_wp2_with (first | (go_at_call 30; refine HC.out.mono ?_; rintro e w' ⟨rfl, hd⟩; obtain ⟨nq, rfl⟩ := hd) | (go_at_call 20; refine (HME.out _ (Kd.C_drewN HR.out _)).mono ?_; rintro e w1 ⟨rfl, hd2⟩; have HB1 := Aside0.mk (below_step (pw_below_drewN (Below.refl _ _) _) hd2); clear hd2) | (go_at_call 41; refine (HM.out _).mono ?_; rintro e w2 ⟨v0, rfl, hs2, hd2⟩; obtain ⟨R, cR, ev, -⟩ := Kd.S_form hs2 (by rw [HQ1.out.1]; omega); rw [HQ1.out.1] at ev; subst ev; have HS2 := Aside0.mk hs2; have HB2 := Aside0.mk hd2; clear hs2 hd2))
       go_loopg [36] l0.length (fun kq v w' => ∃ (i : Nat) (b : List (List Int)), v = .int .i64 (i : Int) ∧ Aside0 (i + kq = l0.length) ∧ Aside0 (SqP l0.length b) ∧ Aside0 (starLoop k l0 l0.length kq i b = some (r1, r2)) ∧ Aside0 (Kd.S (Kd.slice 3 (Kd.int .i64)) 22 w' w.heap.size (fun _ => True) (.slice (some ⟨R, 0, none⟩) l0.length cR) b) ∧ Aside0 (Below w.heap.size w w'))
       case atStart => exact ⟨0, m, rfl, ⟨by omega⟩, HQ1, HST, ⟨Kd.S_lower HS2.out (below_size HB1.out)⟩, ⟨below_step HB1.out HB2.out⟩⟩
       case round =>
        clear HS2 HB2 HB1 HST
        obtain ⟨i, b, rfl, HK, HQB, HST, HS, HB⟩ := hrel
        by_cases hlt : i < l0.length
        ·cases gk with
         | zero => exact absurd HK.out (by omega)
         | succ gO =>
          obtain ⟨p, e, hpw, hcase⟩ := starLoop_inv HST.out
          have HCA := Aside0.mk (HPW.out wr (Kd.C_below HR.out HB.out) i p e hpw)
          have HB' := HB
          clear hpw HST
          rcases hcase with ⟨he, hsq, hnx⟩ | ⟨he, hr⟩
          ·subst he
           obtain ⟨_, _, hqp⟩ := sqB_P hsq
           have HQP := Aside0.mk hqp
           have HNX := Aside0.mk hnx
           clear hsq hqp hnx
           go_wp2_with (go_at_call 15; refine HCA.out.mono ?_; rintro e w3 ⟨v3, rfl, hs3, hd3⟩; obtain ⟨Pp, cP, ev, -⟩ := Kd.S_form hs3 (by rw [HQP.out.1]; omega); rw [HQP.out.1] at ev; subst ev; have HSP := Aside0.mk hs3; have HBW := Aside0.mk hd3; clear hs3 hd3)
           have HBR := Aside0.mk (below_size HB.out)
           have HSB := Aside0.mk (Kd.S_old HS.out HBW.out)
           have HB3 := Aside0.mk (below_step HB.out HBW.out)
           generalize hws : wr.heap.size = ws at *
           clear HS HB HBW HCA hws HB'
           go_loopg [50] l0.length (fun kq v w' => ∃ x : Nat, v = .int .i64 (x : Int) ∧ Aside0 (x + kq = l0.length) ∧ Aside0 (Kd.S (Kd.slice 3 (Kd.int .i64)) 22 w' w.heap.size (fun k => True ∧ k < ws) (.slice (some ⟨R, 0, none⟩) l0.length cR) (maxOut p l0.length x b)) ∧ Aside0 (Kd.S (Kd.slice 3 (Kd.int .i64)) 22 w' ws (fun _ => True) (.slice (some ⟨Pp, 0, none⟩) l0.length cP) p) ∧ Aside0 (Below w.heap.size w w'))
           case atStart => exact ⟨0, rfl, ⟨by omega⟩, HSB, HSP, HB3⟩
           case round =>
            clear HSB HSP HB3
            obtain ⟨x, rfl, HK2, HSB, HSP, HB⟩ := hrel
            by_cases hltx : x < l0.length
            ·cases gk with
             | zero => exact absurd HK2.out (by omega)
             | succ gI =>
              obtain ⟨A1, cc1, hrow, hcc1, hC1⟩ := mat_row (Kd.S_reads' HSP.out).2.2 x (by rw [HQP.out.1]; exact hltx)
              rw [HQP.out.2 x hltx] at hrow hcc1 hC1
              obtain ⟨ad1, rfl⟩ := C_some hC1 (by omega)
              rw [add_plain] at hrow
              have HPR := Aside0.mk hrow
              clear hC1 hcc1
              go_wp2_with fail
              clear hrow
              go_loopg [57] l0.length (fun kq v w' => ∃ y : Nat, v = .int .i64 (y : Int) ∧ Aside0 (y + kq = l0.length) ∧ Aside0 (Kd.S (Kd.slice 3 (Kd.int .i64)) 22 w' w.heap.size (fun k => True ∧ k < ws) (.slice (some ⟨R, 0, none⟩) l0.length cR) (maxIn p x y (maxOut p l0.length x b))) ∧ Aside0 (Kd.S (Kd.slice 3 (Kd.int .i64)) 22 w' ws (fun _ => True) (.slice (some ⟨Pp, 0, none⟩) l0.length cP) p) ∧ Aside0 (w'.cell? ⟨Pp, x, none⟩ = some (.slice (some ad1) l0.length cc1)) ∧ Aside0 (Below w.heap.size w w'))
              case atStart => exact ⟨0, rfl, ⟨by omega⟩, HSB, HSP, HPR, HB⟩
              case round =>
               clear HSB HSP HB HPR
               obtain ⟨y, rfl, HK3, HSB, HSP, HPR, HB⟩ := hrel
               by_cases hlty : y < l0.length
               ·cases gk with
                | zero => exact absurd HK3.out (by omega)
                | succ gJ =>
                 obtain ⟨A2, cc2, hrow, hcc2, hC2⟩ := mat_row (Kd.S_reads' HSP.out).2.2 x (by rw [HQP.out.1]; exact hltx)
                 rw [HQP.out.2 x hltx, add_plain] at hrow
                 have he2 := Option.some.inj (hrow.symm.trans HPR.out)
                 injection he2 with e1 e2 e3
                 subst e1 e3
                 rw [HQP.out.2 x hltx] at hC2
                 have hy := mat_at hC2 y hlty
                 generalize hxv : rd (rdL p (x : Int)) (y : Int) = pv at *
                 have HX := Aside0.mk hxv
                 clear hxv hC2 hcc2 hrow e2
                 have hmq := maxIn_sq (p := p) (maxOut_sq (p := p) HQB.out x (by omega)) hltx y
                 obtain ⟨hb, hc, p1, p2, p3, p4, p5, p6, p7⟩ := mat_putN HSB.out x y hltx (by rw [hmq.2 x hltx]; exact hlty)
                 rw [hmq.2 x hltx] at p1
                 generalize hov : rd (rdL (maxIn p x y (maxOut p l0.length x b)) (x : Int)) (y : Int) = ov at *
                 have HO := Aside0.mk hov
                 have P4 := Aside0.mk p4
                 have P6 := Aside0.mk p6
                 have P7 := Aside0.mk p7
                 clear p4 p6 p7 hmq hov
                 go_wp2_with fail
                 refine still_tail 15 (by kernel_rfl) (by kernel_rfl) (fun wd hwd => ?_)
                 simp only [List.take_succ_cons, List.take_zero, List.drop_succ_cons, List.drop_zero]
                 have q1 : wd.cell? ⟨R, x, none⟩ = some (.slice (some ⟨hb, 0, none⟩) l0.length hc) := by rw [hwd]; exact p1
                 have q2 : wd.cell? ⟨hb, y, none⟩ = some (.int .i64 ov) := by rw [hwd]; exact p2
                 have q3 : wd.frozen? ⟨hb, y, none⟩ = false := by rw [hwd]; exact p3
                 have Q7 : Aside0 (∀ z, Kd.S (Kd.slice 3 (Kd.int .i64)) 22 (wd.setCell ⟨hb, y, none⟩ (.int .i64 z)) w.heap.size (fun k => True ∧ k < ws) (.slice (some ⟨R, 0, none⟩) l0.length cR) ((maxIn p x y (maxOut p l0.length x b)).set x ((rdL (maxIn p x y (maxOut p l0.length x b)) (x : Int)).set y z))) := ⟨fun z => by rw [hwd]; exact mat_drew (P7.out z)⟩
                 have QP : Aside0 (∀ z, Kd.S (Kd.slice 3 (Kd.int .i64)) 22 (wd.setCell ⟨hb, y, none⟩ (.int .i64 z)) ws (fun _ => True) (.slice (some ⟨Pp, 0, none⟩) l0.length cP) p) := ⟨fun z => by rw [hwd]; exact mat_below (Kd.S_drew HSP.out) P6.out z⟩
                 have QR : Aside0 (∀ z, (wd.setCell ⟨hb, y, none⟩ (.int .i64 z)).cell? ⟨Pp, x, none⟩ = some (.slice (some ad1) l0.length cc2)) := ⟨fun z => by rw [hwd]; exact cell_far (by rw [show wr.drew.cell? ⟨Pp, x, none⟩ = wr.cell? ⟨Pp, x, none⟩ from rfl]; exact HPR.out) (mat_off HSP.out P6.out)⟩
                 have QB : Aside0 (∀ z, Below w.heap.size w (wd.setCell ⟨hb, y, none⟩ (.int .i64 z))) := ⟨fun z => by rw [hwd]; exact below_set (below_drew1 HB.out) P4.out⟩
                 clear hwd p1 p2 p3 p5 P7 P6 P4 HSB HSP HPR HB
                 repeat still_step
                 refine wpStill_nil ?_
                 go_wp2_with fail
                 ·go_roundg gJ
                  case measure => omega
                  case rel => exact ⟨y + 1, by go_num, ⟨by have := HK3.out; omega⟩, ⟨by unfold maxIn maxStep; rw [HX.out, HO.out, mx_gt (by omega)]; exact Q7.out _⟩, ⟨QP.out _⟩, ⟨QR.out _⟩, ⟨QB.out _⟩⟩
                 ·go_roundg gJ
                  case measure => omega
                  case rel => exact ⟨y + 1, by go_num, ⟨by have := HK3.out; omega⟩, ⟨by unfold maxIn maxStep; rw [HX.out, HO.out, mx_le (by omega)]; exact Q7.out _⟩, ⟨QP.out _⟩, ⟨QR.out _⟩, ⟨QB.out _⟩⟩
               ·have hj : y = l0.length := by have := HK3.out; omega
                have HJ := Aside0.mk hj
                clear hj
                go_wp2_with fail
                go_roundg gI
                case measure => omega
                case rel => exact ⟨x + 1, by go_num, ⟨by have := HK2.out; omega⟩, ⟨by unfold maxOut; have h := HSB.out; rw [HJ.out] at h; exact h⟩, HSP, HB⟩
            ·have hj : x = l0.length := by have := HK2.out; omega
             have HJ := Aside0.mk hj
             clear hj
             go_wp2_with fail
             go_roundg gO
             case measure => have := HK.out; omega
             case rel => exact ⟨i + 1, maxOut p l0.length l0.length b, by go_num, ⟨by have := HK.out; omega⟩, ⟨maxOut_sq HQB.out _ (Nat.le_refl _)⟩, HNX, ⟨by have h := HSB.out; rw [HJ.out] at h; exact Kd.S_mono h (fun _ _ => trivial)⟩, HB⟩
          ·obtain ⟨rfl, rfl⟩ := Prod.mk.inj hr
           have heb : (r2 == 0) = false := beq_eq_false_iff_ne.2 he
           clear hr
           go_wp2_with (go_at_call 15; refine HCA.out.mono ?_; rintro e w3 ⟨v3, rfl, hs3, hd3⟩)
           go_ret2
           exact ⟨_, rfl, Kd.S_nil _ _ _ _ _, below_step HB.out hd3⟩
        ·have hg : gk = 0 := by have := HK.out; omega
         subst hg
         obtain ⟨rfl, rfl⟩ := Prod.mk.inj (Option.some.inj HST.out)
         go_wp2_with fail
         go_ret2
         exact ⟨_, rfl, HS.out, HB.out⟩

/-! ### maxplus_Critical: function 36 -/
open StarLib
def redStep (l0 : List (List Int)) (num den : Int) (i j : Nat) (m : List (List Int)) : List (List Int) :=
 if rd (rdL l0 (i : Int)) (j : Int) = -1125899906842624 then m else m.set i ((rdL m (i : Int)).set j (wrap64 (wrap64 (rd (rdL l0 (i : Int)) (j : Int) * den) - num)))
def redIn (l0 : List (List Int)) (num den : Int) (i : Nat) : Nat → List (List Int) → List (List Int)
 | 0, m => m
 | j + 1, m => redStep l0 num den i j (redIn l0 num den i j m)
/-- The weights less the mean, the first rows. -/
def redOut (l0 : List (List Int)) (num den : Int) : Nat → List (List Int) → List (List Int)
 | 0, m => m
 | i + 1, m => redIn l0 num den i (rdL l0 (i : Int)).length (redOut l0 num den i m)
theorem redStep_sq {l0 m : List (List Int)} {num den : Int} {n i j : Nat} (h : SqP n m) (hi : i < n) : SqP n (redStep l0 num den i j m) := by
 unfold redStep
 split
 ·exact h
 ·refine ⟨by rw [List.length_set]; exact h.1, fun q hq => ?_⟩
  rw [rdL_set _ _ (by rw [h.1]; exact hi)]
  split
  ·rw [List.length_set]; exact h.2 i hi
  ·exact h.2 q hq
theorem redIn_sq {l0 m : List (List Int)} {num den : Int} {n i : Nat} (h : SqP n m) (hi : i < n) : ∀ j, SqP n (redIn l0 num den i j m)
 | 0 => h
 | j + 1 => redStep_sq (redIn_sq h hi j) hi
theorem redOut_sq {l0 m : List (List Int)} {num den : Int} {n : Nat} (h : SqP n m) : ∀ i, i ≤ n → SqP n (redOut l0 num den i m)
 | 0, _ => h
 | i + 1, hi => redIn_sq (redOut_sq h i (by omega)) (by omega) _
def onI (wk : List (List Int)) : Nat → List Bool → List Bool
 | 0, on => on
 | i + 1, on => (onI wk i on).set i (rdOf false (onI wk i on) (i : Int) || (rd (rdL wk (i : Int)) (i : Int) == 0))
theorem onI_len (wk : List (List Int)) (on : List Bool) : ∀ i, (onI wk i on).length = on.length
 | 0 => rfl
 | i + 1 => by unfold onI; rw [List.length_set]; exact onI_len wk on i
def critLoop (k : Nat) (red : List (List Int)) (n : Nat) : Nat → List (List Int) → List Bool → Option (List Bool)
 | 0, _, on => some on
 | q + 1, wk, on => if sqB n wk = true then (maxplus_product.f k wk red).bind fun w2 => critLoop k red n q w2 (onI wk n on) else none
def nodesI (on : List Bool) : Nat → List Int
 | 0 => []
 | i + 1 => if rdOf false on (i : Int) = true then nodesI on i ++ [(i : Int)] else nodesI on i
theorem nodesI_len (on : List Bool) : ∀ i, (nodesI on i).length ≤ i
 | 0 => Nat.le_refl _
 | i + 1 => by
  unfold nodesI
  have := nodesI_len on i
  split
  ·simp; omega
  ·omega
def critTail (k : Nat) (l0 : List (List Int)) (num den : Int) (m : List (List Int)) : Option (List Int) :=
 if sqB l0.length l0 = true then (if sqB l0.length m = true then (critLoop k (redOut l0 num den l0.length m) l0.length l0.length (redOut l0 num den l0.length m) (List.replicate l0.length false)).bind fun on => some (nodesI on l0.length) else none) else none
def maxplus_Critical.f (k : Nat) (l0 : List (List Int)) : Option (List Int) := (maxplus_Mean.f k l0).bind fun t => (if t.2.2 = true then ((maxplus_matrix.f k (l0.length : Int) (l0.length : Int)).bind fun m => critTail k l0 t.1 t.2.1 m) else some ([] : List Int))
theorem critLoop_mono (k : Nat) (red : List (List Int)) (n : Nat) : ∀ q wk on, LeO (critLoop k red n q wk on) (critLoop (k + 1) red n q wk on)
 | 0, _, _ => LeO.refl _
 | q + 1, wk, on => by
  unfold critLoop
  exact LeO.ite (LeO.bind (maxplus_product.mono _ _ _) (fun w2 => critLoop_mono k red n q w2 _)) (LeO.refl _)
theorem maxplus_Critical.mono : ∀ a0 k, LeO (maxplus_Critical.f k a0) (maxplus_Critical.f (k + 1) a0) := by
 intro a0 k
 unfold maxplus_Critical.f
 refine LeO.bind (maxplus_Mean.mono _ _) (fun t => LeO.ite (LeO.bind (maxplus_matrix.mono _ _ _) (fun m => ?_)) (LeO.refl _))
 unfold critTail
 exact LeO.ite (LeO.ite (LeO.bind (critLoop_mono _ _ _ _ _ _) (fun _ => LeO.refl _)) (LeO.refl _)) (LeO.refl _)
theorem critTail_inv {k : Nat} {l0 m : List (List Int)} {num den : Int} {r : List Int} (h : critTail k l0 num den m = some r) : ∃ onF, sqB l0.length l0 = true ∧ sqB l0.length m = true ∧ critLoop k (redOut l0 num den l0.length m) l0.length l0.length (redOut l0 num den l0.length m) (List.replicate l0.length false) = some onF ∧ nodesI onF l0.length = r := by
 unfold critTail at h
 by_cases h1 : sqB l0.length l0 = true
 ·rw [if_pos h1] at h
  by_cases h2 : sqB l0.length m = true
  ·rw [if_pos h2] at h
   cases h3 : critLoop k (redOut l0 num den l0.length m) l0.length l0.length (redOut l0 num den l0.length m) (List.replicate l0.length false) with
   | none => rw [h3] at h; exact absurd h (by simp)
   | some onF => rw [h3] at h; exact ⟨onF, h1, h2, rfl, Option.some.inj h⟩
  ·rw [if_neg h2] at h; exact absurd h (by simp)
 ·rw [if_neg h1] at h; exact absurd h (by simp)
theorem critLoop_inv {k : Nat} {red wk : List (List Int)} {n q : Nat} {on onF : List Bool} (h : critLoop k red n (q + 1) wk on = some onF) : ∃ w2, sqB n wk = true ∧ maxplus_product.f k wk red = some w2 ∧ critLoop k red n q w2 (onI wk n on) = some onF := by
 unfold critLoop at h
 by_cases h1 : sqB n wk = true
 ·rw [if_pos h1] at h
  cases h2 : maxplus_product.f k wk red with
  | none => rw [h2] at h; exact absurd h (by simp)
  | some w2 => rw [h2] at h; exact ⟨w2, h1, rfl, h⟩
 ·rw [if_neg h1] at h; exact absurd h (by simp)
set_option maxHeartbeats 4000000 in
set_option maxRecDepth 100000 in
theorem maxplus_Critical.calls (k : Nat) (A0 : Option Addr) (c0 : Nat) (l0 : List (List Int)) (r : List Int) (w : World) (hr0 : Kd.C (Kd.slice 3 (Kd.int .i64)) w A0 l0.length l0) (hc0 : l0.length ≤ c0) (h : maxplus_Critical.f k l0 = some r) :
  Calls Try.prog 36 #[.slice A0 l0.length c0] w fun e w' => ∃ v0_ : Value, e = .returned v0_ ∧ Kd.R (Kd.int .i64) 3 w' w.heap.size (fun _ => True) v0_ r ∧ Below w.heap.size w w' := by
 unfold maxplus_Critical.f at h
 cases hck : maxplus_Mean.f k l0 with
 | none => rw [hck] at h; exact absurd h (by simp)
 | some t =>
  obtain ⟨num, den, ok⟩ := t
  rw [hck] at h
  have HC := Aside0.mk (maxplus_Mean.calls k A0 c0 l0 num den ok w hr0 hc0 hck)
  cases ok with
  | false =>
   have h2 : ([] : List Int) = r := Option.some.inj h
   subst h2
   clear h hck hr0 hc0
   go_enter Try.func36, Try.ntmps36
   go_wp2_with (go_at_call 20; refine HC.out.mono ?_; rintro e w' ⟨rfl, hd⟩)
   go_ret
   exact ⟨_, rfl, Kd.R_nil _ _ _ _ _, by repeat (first | exact Below.refl _ _ | exact hd | apply pw_below_drewN | apply below_drew1)⟩
  | true =>
   have h1 : ((maxplus_matrix.f k (l0.length : Int) (l0.length : Int)).bind fun m => critTail k l0 num den m) = some r := h
   clear h hck
   cases hm : maxplus_matrix.f k (l0.length : Int) (l0.length : Int) with
   | none => rw [hm] at h1; exact absurd h1 (by simp)
   | some m =>
    rw [hm] at h1
    obtain ⟨onF, hs0, hs1, hcl, hr⟩ := critTail_inv (show critTail k l0 num den m = some r from h1)
    obtain ⟨hn1, hn2, hq0⟩ := sqB_P hs0
    obtain ⟨_, _, hq1⟩ := sqB_P hs1
    obtain ⟨ad0, rfl⟩ := C_some hr0 (by omega)
    obtain ⟨red, hred⟩ : ∃ q, q = redOut l0 num den l0.length m := ⟨_, rfl⟩
    rw [← hred] at hcl
    have hrq : SqP l0.length red := hred ▸ redOut_sq hq1 _ (Nat.le_refl _)
    have HM := Aside0.mk (fun W => maxplus_matrix.calls k (l0.length : Int) (l0.length : Int) m W hm)
    have HR := Aside0.mk hr0
    have HQ0 := Aside0.mk hq0
    have HQ1 := Aside0.mk hq1
    have HRQ := Aside0.mk hrq
    have HCL := Aside0.mk hcl
    have HRED := Aside0.mk hred
    have HRR := Aside0.mk hr
    have HMK := Aside0.mk (fun W => run_make_row' (P := Try.prog) 35 4 (.bool false) 1 Try.underlying35 (by kernel_rfl) rfl .i64 .i64 l0.length (by omega) (by omega) W)
    clear h1 hm hs0 hs1 hcl hr hq0 hq1 hred hrq hc0 hr0
    go_enter Try.func36, Try.ntmps36
    go_wp2_with (first | (go_at_call 20; refine HC.out.mono ?_; rintro e w1 ⟨rfl, hd1⟩; have HB1 := Aside0.mk hd1; clear hd1) | (go_at_call 41; refine (HM.out _).mono ?_; rintro e w2 ⟨v0, rfl, hs2, hd2⟩; obtain ⟨R, cR, ev, -⟩ := Kd.S_form hs2 (by rw [HQ1.out.1]; omega); rw [HQ1.out.1] at ev; subst ev; have HS2 := Aside0.mk hs2; have HB2 := Aside0.mk hd2; clear hs2 hd2))
    go_loopg [32] l0.length (fun kq v w' => ∃ i : Nat, v = .int .i64 (i : Int) ∧ Aside0 (i + kq = l0.length) ∧ Aside0 (Kd.S (Kd.slice 3 (Kd.int .i64)) 22 w' w.heap.size (fun _ => True) (.slice (some ⟨R, 0, none⟩) l0.length cR) (redOut l0 num den i m)) ∧ Aside0 (Below w.heap.size w w'))
    case atStart => exact ⟨0, rfl, ⟨by omega⟩, ⟨Kd.S_lower HS2.out (below_size HB1.out)⟩, ⟨below_step HB1.out HB2.out⟩⟩
    case round =>
     clear HS2 HB2 HB1
     obtain ⟨i, rfl, HK, HS, HB⟩ := hrel
     by_cases hlt : i < l0.length
     ·cases gk with
      | zero => exact absurd HK.out (by omega)
      | succ gO =>
       obtain ⟨A1, cc1, hrow, hcc1, hC1⟩ := mat_row HR.out i hlt
       rw [HQ0.out.2 i hlt] at hrow hcc1 hC1
       obtain ⟨ad1, rfl⟩ := C_some hC1 (by omega)
       have hrow' := pw_cell_below HB.out hrow
       have HC1 := Aside0.mk hC1
       clear hrow hC1 hcc1
       generalize hrw : rdL l0 (i : Int) = row at *
       have HRW := Aside0.mk hrw
       clear hrw
       go_wp2_with fail
       clear hrow'
       go_loopg [39] l0.length (fun kq v w' => ∃ j : Nat, v = .int .i64 (j : Int) ∧ Aside0 (j + kq = l0.length) ∧ Aside0 (Kd.S (Kd.slice 3 (Kd.int .i64)) 22 w' w.heap.size (fun _ => True) (.slice (some ⟨R, 0, none⟩) l0.length cR) (redIn l0 num den i j (redOut l0 num den i m))) ∧ Aside0 (Below w.heap.size w w'))
       case atStart => exact ⟨0, rfl, ⟨by omega⟩, ⟨HS.out⟩, ⟨HB.out⟩⟩
       case round =>
        clear HS HB
        obtain ⟨j, rfl, HK2, HS, HB⟩ := hrel
        by_cases hltj : j < l0.length
        ·cases gk with
         | zero => exact absurd HK2.out (by omega)
         | succ gI =>
          have hx := mat_at (Kd.C_below HC1.out HB.out) j hltj
          generalize hxv : rd row (j : Int) = x at *
          have HX := Aside0.mk hxv
          clear hxv
          by_cases hv : x = -1125899906842624
          ·have hv1 : (x == -1125899906842624) = true := beq_iff_eq.2 hv
           have HV := Aside0.mk hv
           clear hv
           go_wp2_with fail
           go_roundg gI
           case measure => omega
           case rel => exact ⟨j + 1, by go_num, ⟨by have := HK2.out; omega⟩, ⟨by unfold redIn redStep; rw [HRW.out, HX.out, if_pos HV.out]; exact HS.out⟩, ⟨HB.out⟩⟩
          ·have hv1 : (x == -1125899906842624) = false := beq_eq_false_iff_ne.2 hv
           have HV := Aside0.mk hv
           clear hv
           obtain ⟨hb, hc, p1, p2, p3, p4, p5, p6, p7⟩ := mat_put HS.out i j hlt (by rw [(redIn_sq (redOut_sq HQ1.out i (by omega)) hlt j).2 i hlt]; exact hltj)
           have hl := (redIn_sq (l0 := l0) (num := num) (den := den) (redOut_sq (l0 := l0) (num := num) (den := den) HQ1.out i (by omega)) hlt j).2 i hlt
           rw [hl] at p1
           have P7 := Aside0.mk p7
           have P4 := Aside0.mk p4
           clear p7 hl p4 p5 p6
           go_wp2_with fail
           go_roundg gI
           case measure => omega
           case rel => exact ⟨j + 1, by go_num, ⟨by have := HK2.out; omega⟩, ⟨by unfold redIn redStep; rw [HRW.out, HX.out, if_neg HV.out]; exact P7.out _⟩, ⟨below_set HB.out P4.out⟩⟩
        ·have hj : j = l0.length := by have := HK2.out; omega
         have HJ := Aside0.mk hj
         clear hj
         go_wp2_with fail
         go_roundg gO
         case measure => have := HK.out; omega
         case rel => exact ⟨i + 1, by go_num, ⟨by have := HK.out; omega⟩, ⟨by unfold redOut; rw [HRW.out, show row.length = j by rw [HJ.out, ← HRW.out]; exact HQ0.out.2 i hlt]; exact HS.out⟩, ⟨HB.out⟩⟩
     ·have hi : i = l0.length := by have := HK.out; omega
      have HSR : Aside0 (Kd.S (Kd.slice 3 (Kd.int .i64)) 22 wr w.heap.size (fun _ => True) (.slice (some ⟨R, 0, none⟩) l0.length cR) red) := ⟨by have h := HS.out; rw [hi] at h; rwa [HRED.out]⟩
      clear HS hi
      have hmk := HMK.out
      go_wp2_with fail
      clear hmk
      generalize hbe : wr.heap.size = B
      have hbk : (wr.alloc (.cells (madeCells #[Value.bool false] l0.length) 4)).heap[B]? = some (.cells ((List.replicate l0.length false).map Value.bool).toArray 4 (0, 0)) := by rw [← bools_made, ← hbe]; exact blk_new _ _
      have hsr := Kd.S_alloc HSR.out (.cells (madeCells #[Value.bool false] l0.length) 4)
      have hbb := below_alloc HB.out (.cells (madeCells #[Value.bool false] l0.length) 4)
      have hB0 : w.heap.size ≤ B := by rw [← hbe]; exact below_size HB.out
      have HBE := Aside0.mk hbe
      have HBK := Aside0.mk hbk
      have HSR2 := Aside0.mk hsr
      have HB2 := Aside0.mk hbb
      have HB0 := Aside0.mk hB0
      clear hbe hbk hsr hbb hB0 HSR HB
      go_loopg [65, 12] l0.length (fun kq v65 v12 w' => ∃ (q : Nat) (vw : Value) (wk : List (List Int)) (on : List Bool), v65 = .int .i64 (q : Int) ∧ v12 = vw ∧ Aside0 (q + kq = l0.length) ∧ Aside0 (on.length = l0.length) ∧ Aside0 (critLoop k red l0.length kq wk on = some onF) ∧ Aside0 (w'.heap[B]? = some (.cells (on.map Value.bool).toArray 4 (0, 0))) ∧ Aside0 (Kd.S (Kd.slice 3 (Kd.int .i64)) 22 w' w.heap.size (fun _ => True) vw wk) ∧ Aside0 (Kd.S (Kd.slice 3 (Kd.int .i64)) 22 w' w.heap.size (fun _ => True) (.slice (some ⟨R, 0, none⟩) l0.length cR) red) ∧ Aside0 (Below w.heap.size w w'))
      case atStart => exact ⟨0, _, red, List.replicate l0.length false, rfl, rfl, ⟨by omega⟩, ⟨List.length_replicate⟩, HCL, HBK, HSR2, HSR2, HB2⟩
      case round =>
       clear HBK HSR2 HB2 HCL
       obtain ⟨q, vw, wk, on, rfl, rfl, HK, HOL, HCL, HBK, HSW, HSR, HB⟩ := hrel
       by_cases hlt : q < l0.length
       ·cases gk with
        | zero => exact absurd HK.out (by omega)
        | succ gO =>
         obtain ⟨w2, hsq, hpr, hnx⟩ := critLoop_inv HCL.out
         obtain ⟨_, _, hqw⟩ := sqB_P hsq
         obtain ⟨Aw, cw, ew, -⟩ := Kd.S_form HSW.out (by rw [hqw.1]; omega)
         rw [hqw.1] at ew
         subst ew
         have HNX := Aside0.mk hnx
         have HQW := Aside0.mk hqw
         have HPR := Aside0.mk (fun W A cA A' cA' h1 h2 h3 h4 => maxplus_product.calls k A cA wk A' cA' red w2 W h1 h2 h3 h4 hpr)
         clear hnx hqw hpr hsq HCL
         go_wp2_with fail
         go_loopg [69] l0.length (fun kq v w' => ∃ i : Nat, v = .int .i64 (i : Int) ∧ Aside0 (i + kq = l0.length) ∧ Aside0 (w'.heap[B]? = some (.cells ((onI wk i on).map Value.bool).toArray 4 (0, 0))) ∧ Aside0 (Kd.S (Kd.slice 3 (Kd.int .i64)) 22 w' w.heap.size (fun _ => True) (.slice (some ⟨Aw, 0, none⟩) l0.length cw) wk) ∧ Aside0 (Kd.S (Kd.slice 3 (Kd.int .i64)) 22 w' w.heap.size (fun _ => True) (.slice (some ⟨R, 0, none⟩) l0.length cR) red) ∧ Aside0 (Below w.heap.size w w'))
         case atStart => exact ⟨0, rfl, ⟨by omega⟩, HBK, HSW, HSR, HB⟩
         case round =>
          clear HBK HSW HSR HB
          obtain ⟨i, rfl, HK4, HBK, HSW, HSR, HB⟩ := hrel
          by_cases hlti : i < l0.length
          ·cases gk with
           | zero => exact absurd HK4.out (by omega)
           | succ gI =>
            have hc1 := bools_cell HBK.out i (by rw [onI_len, HOL.out]; exact hlti)
            have hf1 : wr.frozen? ⟨B, i, none⟩ = false := blk_frozen HBK.out i
            generalize hbv : rdOf false (onI wk i on) (i : Int) = b at *
            have HBV := Aside0.mk hbv
            clear hbv
            have HST := Aside0.mk (fun x => And.intro (bools_set HBK.out i x) (And.intro (Kd.S_set HSW.out HBK.out (by decide) i (.bool x)) (And.intro (Kd.S_set HSR.out HBK.out (by decide) i (.bool x)) (show Below w.heap.size w (wr.setCell ⟨B, i, none⟩ (.bool x)) from below_set HB.out HB0.out))))
            cases b with
            | true =>
             go_wp2_with fail
             go_roundg gI
             case measure => omega
             case rel => exact ⟨i + 1, by go_num, ⟨by have := HK4.out; omega⟩, ⟨by unfold onI; rw [HBV.out]; exact (HST.out true).1⟩, ⟨(HST.out true).2.1⟩, ⟨(HST.out true).2.2.1⟩, ⟨(HST.out true).2.2.2⟩⟩
            | false =>
             obtain ⟨A1, cc1, hrow, hcc1, hC1⟩ := mat_row (Kd.S_reads' HSW.out).2.2 i (by rw [HQW.out.1]; exact hlti)
             rw [HQW.out.2 i hlti] at hrow hcc1 hC1
             obtain ⟨ad1, rfl⟩ := C_some hC1 (by omega)
             have hx := mat_at hC1 i hlti
             rw [add_plain] at hrow
             generalize hxv : rd (rdL wk (i : Int)) (i : Int) = x at *
             have HX := Aside0.mk hxv
             clear hxv hC1 hcc1
             by_cases hv : x = 0
             ·have hv1 : (x == 0) = true := beq_iff_eq.2 hv
              go_wp2_with fail
              go_roundg gI
              case measure => omega
              case rel => exact ⟨i + 1, by go_num, ⟨by have := HK4.out; omega⟩, ⟨by unfold onI; rw [HBV.out, HX.out, hv1]; exact (HST.out true).1⟩, ⟨(HST.out true).2.1⟩, ⟨(HST.out true).2.2.1⟩, ⟨(HST.out true).2.2.2⟩⟩
             ·have hv1 : (x == 0) = false := beq_eq_false_iff_ne.2 hv
              go_wp2_with fail
              go_roundg gI
              case measure => omega
              case rel => exact ⟨i + 1, by go_num, ⟨by have := HK4.out; omega⟩, ⟨by unfold onI; rw [HBV.out, HX.out, hv1]; exact (HST.out false).1⟩, ⟨(HST.out false).2.1⟩, ⟨(HST.out false).2.2.1⟩, ⟨(HST.out false).2.2.2⟩⟩
          ·have hi : i = l0.length := by have := HK4.out; omega
           have HI := Aside0.mk hi
           clear hi
           have hcl := Kd.S_reads' HSW.out
           have hcr := Kd.S_reads' HSR.out
           rw [HQW.out.1] at hcl
           rw [HRQ.out.1] at hcr
           have hcall := HPR.out wr (some ⟨Aw, 0, none⟩) cw (some ⟨R, 0, none⟩) cR (by rw [HQW.out.1]; exact hcl.2.2) (by rw [HQW.out.1]; exact hcl.2.1) (by rw [HRQ.out.1]; exact hcr.2.2) (by rw [HRQ.out.1]; exact hcr.2.1)
           rw [HQW.out.1, HRQ.out.1] at hcall
           have HCA := Aside0.mk hcall
           clear hcall hcl hcr
           go_wp2_with (go_at_call 42; refine HCA.out.mono ?_; rintro e w3 ⟨v3, rfl, hs3, hd3⟩)
           go_roundg gO
           case measure => have := HK.out; omega
           case rel => exact ⟨q + 1, v3, w2, onI wk l0.length on, by go_num, rfl, ⟨by have := HK.out; omega⟩, ⟨by rw [onI_len]; exact HOL.out⟩, HNX, ⟨by rw [← HI.out]; exact blk_below HBK.out hd3⟩, ⟨Kd.S_lower hs3 (below_size HB.out)⟩, ⟨Kd.S_below HSR.out hd3⟩, ⟨below_step HB.out hd3⟩⟩
       ·have hg : gk = 0 := by have := HK.out; omega
        subst hg
        have hon : on = onF := Option.some.inj HCL.out
        have hol := HOL.out
        rw [hon] at hol
        have HOL2 := Aside0.mk hol
        have HBK2 : Aside0 (wr.heap[B]? = some (.cells (onF.map Value.bool).toArray 4 (0, 0))) := ⟨hon ▸ HBK.out⟩
        clear hol hon HCL HOL HBK HSW HSR
        go_wp2_with fail
        go_loopg [96, 14] l0.length (fun kq v96 v14 w' => ∃ (i : Nat) (vn : Value), v96 = .int .i64 (i : Int) ∧ v14 = vn ∧ Aside0 (i + kq = l0.length) ∧ Aside0 (w'.heap[B]? = some (.cells (onF.map Value.bool).toArray 4 (0, 0))) ∧ Aside0 (Kd.R (Kd.int .i64) 3 w' w.heap.size (fun _ => True) vn (nodesI onF i)) ∧ Aside0 (Below w.heap.size w w'))
        case atStart => exact ⟨0, _, rfl, rfl, ⟨by omega⟩, HBK2, ⟨Kd.R_nil _ _ _ _ _⟩, HB⟩
        case round =>
         clear HBK2 HB
         obtain ⟨i, vn, rfl, rfl, HK5, HBK, HN, HB⟩ := hrel
         by_cases hlti : i < l0.length
         ·cases gk with
          | zero => exact absurd HK5.out (by omega)
          | succ gI =>
           have hc1 := bools_cell HBK.out i (by rw [HOL2.out]; exact hlti)
           generalize hbv : rdOf false onF (i : Int) = b at *
           have HBV := Aside0.mk hbv
           clear hbv
           obtain ⟨An, cn, rfl⟩ := Kd.R_slice HN.out
           cases b with
           | true =>
            have HLN := Aside0.mk (nodesI_len onF i)
            go_wp2_with ((with_reducible refine gate_dst (N := 105) rfl ?_); refine Kd.R_append (Kd.int .i64) (w0 := w) w.heap.size rfl (.tmp 102) (.tmp 104) 22 3 (.int .i64 0) 8 rfl Try.underlying22 info3 rfl (by decide) (by omega) _ (nodesI onF i) (i : Int) [.int .i64 (i : Int)] (fun _ => True) (fun _ => False) rfl rfl rfl (fun _ hk => hk.elim) (fun _ _ => trivial) HN.out HB.out (below_size HB.out) (by have := HLN.out; omega) ?_; intro v5 w5 ho5 hb5 hg5 hat5; have HN5 := Aside0.mk ho5; have HB5 := Aside0.mk hb5; have HBK5 := Aside0.mk (blk_grown HBK.out hg5 (Kd.R_ne HN.out HBK.out (by decide))); clear ho5 hb5 hg5 hat5)
            go_roundg gI
            case measure => omega
            case rel => exact ⟨i + 1, v5, by go_num, rfl, ⟨by have := HK5.out; omega⟩, HBK5, ⟨by unfold nodesI; rw [if_pos HBV.out]; exact HN5.out⟩, HB5⟩
           | false =>
            go_wp2_with fail
            go_roundg gI
            case measure => omega
            case rel => exact ⟨i + 1, _, by go_num, rfl, ⟨by have := HK5.out; omega⟩, HBK, ⟨by rw [show nodesI onF (i + 1) = nodesI onF i from if_neg (by rw [HBV.out]; decide)]; exact HN.out⟩, HB⟩
         ·have hi : i = l0.length := by have := HK5.out; omega
          have HI := Aside0.mk hi
          clear hi
          go_wp2_with fail
          go_ret
          exact ⟨_, rfl, by rw [← HRR.out, ← HI.out]; exact HN.out, HB.out⟩

end Go.Proofs.Ytnmhdeibjglhcaa.XAll
