/- Arguments opened: what a row reads as data is what the walks read: slices, structs and what they hold. -/
import Derived.Test.YtpioelilfhkfdaaWWords
import Derived.Deep.Slices
import Derived.ChangeSame
import Derived.WideShapes
namespace Go.Proofs.Ytpioelilfhkfdaa.Opens
open Go.RowKit Go.ChangeShapes Go.WideShapes Go.Deep Go.Proofs.YtpioelilfhkfdaaW.PrintWords
section
variable {H : Type} {enc : TypeId × Value → H} {P : Program} {w : World} {base : Nat} {spare : Nat → Bool} {held : Bool}
/-- Whatever reads as data of type e is a value of this kind. -/
def Dec {α : Type} (enc : TypeId × Value → H) (P : Program) (w : World) (base : Nat) (spare : Nat → Bool) (held : Bool) (e : TypeId) (d : Kd α) : Prop := ∀ (n : Nat) (cs : List Value) (x : DataW H × List MemPlace), DataW.trod enc P w base spare held n e cs = some x → ∃ a, d.K w a cs
theorem dec_int {e : TypeId} {k : IntKind} (he : P.underlying e = some (.int k)) : Dec enc P w base spare held e (Kd.int k) := fun n cs x h => by
  obtain ⟨a, rfl, _, _⟩ := DataW.trod_int he h
  exact ⟨a, rfl⟩
theorem dec_string {e : TypeId} (he : P.underlying e = some .string) : Dec enc P w base spare held e Kd.string := fun n cs x h => by
  obtain ⟨a, rfl, _, _⟩ := DataW.trod_string he h
  exact ⟨a, rfl⟩
theorem list_of {α : Type} {p : Nat → α → Prop} : ∀ n : Nat, (∀ i, i < n → ∃ x, p i x) → ∃ l : List α, l.length = n ∧ ∀ i x, l[i]? = some x → p i x
  | 0, _ => ⟨[], rfl, fun i x h => by simp at h⟩
  | n + 1, h => by
    obtain ⟨l, hl, hp⟩ := list_of n (fun i hi => h i (by omega))
    obtain ⟨x, hx⟩ := h n (by omega)
    refine ⟨l ++ [x], by simp [hl], fun i y hy => ?_⟩
    rcases Nat.lt_or_ge i l.length with hi | hi
    · rw [List.getElem?_append_left hi] at hy
      exact hp i y hy
    · have hi' := (List.getElem?_eq_some_iff.1 hy).1
      rw [List.length_append, List.length_singleton] at hi'
      have e : i = l.length := by omega
      subst e
      rw [List.getElem?_append_right (Nat.le_refl _)] at hy
      simp at hy
      subst hy
      rw [hl]
      exact hx
theorem dec_slice {α : Type} {d : Kd α} {t e : TypeId} (ht : P.underlying t = some (.slice e)) (hC : P.cellsOf e = d.sz) (dec : Dec enc P w base spare held e d) : Dec enc P w base spare held t (Kd.slice e d) := fun n cs x h => by
  rcases open_slice ht h with ⟨rfl, _⟩ | ⟨a, len, cap, m, n', D, Pl, rfl, _, hl, hm, hmm, _, hi⟩
  · exact ⟨[], none, 0, rfl, Nat.le_refl _, rfl, by simp, fun h0 => absurd h0 (by simp)⟩
  · have hlm : len ≤ m := by rw [hmm]; split <;> omega
    obtain ⟨l, hll, hp⟩ := list_of (p := fun i (y : α) => ∃ c, c.length = d.sz ∧ d.K w y c ∧ ∀ j u, c[j]? = some u → w.cell? (a.add (i * d.sz + j)) = some u) len (fun i hlt => by
      obtain ⟨cs', hc, hx⟩ := hi i (by omega)
      obtain ⟨y, hy⟩ := dec _ _ _ hx
      rw [hC] at hc
      obtain ⟨_, hlen, hat⟩ := World.cells?_some hc
      refine ⟨y, cs', hlen, hy, fun j u hu => ?_⟩
      have hj : j < d.sz := by have := (List.getElem?_eq_some_iff.1 hu).1; omega
      rw [← Go.Deep.add_add, hat j hj, hu])
    refine ⟨l, some a, cap, by rw [hll], by omega, rfl, by rw [hll]; unfold maxLen at hm; omega, fun _ => ⟨a, rfl, fun j p hj => hp j p hj⟩⟩
/-- A struct by its fields, each of one cell: the field's part of the cells. -/
theorem field {α : Type} {d : Kd α} {t : TypeId} {fs : Array Field} {n : Nat} {cs : List Value} {x : DataW H × List MemPlace} (ht : P.underlying t = some (.struct fs)) (h : DataW.trod enc P w base spare held n t cs = some x)
    {i : Nat} {f : Field} (hf : fs[i]? = some f) (dec : Dec enc P w base spare held f.type d) (hone : P.cellsOf f.type = 1) {v : Value} (hv : cs[f.offset]? = some v) : ∃ a, d.K w a [v] := by
  obtain ⟨xs, m, _, _, _, hxl, hg⟩ := DataW.trod_struct ht h
  have h1 := hg i f hf
  have hi : i < xs.length := by rw [hxl]; exact (Array.getElem?_eq_some_iff.1 hf).1
  rw [List.getElem?_eq_getElem hi, hone] at h1
  have hlt := (List.getElem?_eq_some_iff.1 hv).1
  have e : (cs.drop f.offset).take 1 = [v] := by
    rw [List.drop_eq_getElem_cons hlt]
    have := (List.getElem?_eq_some_iff.1 hv).2
    simp [this]
  rw [e] at h1
  exact dec _ _ _ h1
theorem struct_len {t : TypeId} {fs : Array Field} {n : Nat} {cs : List Value} {x : DataW H × List MemPlace} (ht : P.underlying t = some (.struct fs)) (h : DataW.trod enc P w base spare held n t cs = some x) : cs.length = P.cellsOf t := by
  obtain ⟨xs, m, _, _, hl, _, _⟩ := DataW.trod_struct ht h
  exact hl
end
end Go.Proofs.Ytpioelilfhkfdaa.Opens
