/-
  From the form's reading of an argument to the kinds of the print: whole numbers, bools, texts, slices, structs of five fields. No program is in sight.
-/
import Derived.Test.YtmbkmfdmpimegaaDoorA0
import Derived.ProofKit
import Derived.Deep.Slices
namespace Go.Proofs.YtmbkmfdmpimegaaDoor
open Go.ChangeShapes Go.WideShapes Go.RowKit Go.Deep Go.Proofs.YtmbkmfdmpimegaaDoorW.PrintWords

/-- whatever reads as data of type t has cells of this kind; Q holds of it -/
def Rd (P : Program) (t : TypeId) {α : Type} (d : Kd α) (Q : α → Prop) : Prop :=
  ∀ {H : Type} {enc : TypeId × Value → H} {w : World} {base : Nat} {sp : Nat → Bool} {held : Bool} {fuel : Nat} {cs : List Value} {x : DataW H × List MemPlace}, DataW.trod enc P w base sp held fuel t cs = some x → ∃ a, d.K w a cs ∧ Q a

theorem rd_int {P : Program} {t : TypeId} {k : IntKind} (ht : P.underlying t = some (.int k)) : Rd P t (Kd.int k) (fun n => (Lit.int k n).wf = true) := by
  intro H enc w base sp held fuel cs x h
  obtain ⟨n, rfl, _, hw⟩ := DataW.trod_int ht h
  exact ⟨n, rfl, hw⟩
theorem rd_str {P : Program} {t : TypeId} (ht : P.underlying t = some .string) : Rd P t Kd.string (fun s => s.size ≤ maxLen) := by
  intro H enc w base sp held fuel cs x h
  obtain ⟨s, rfl, _, hs⟩ := DataW.trod_string ht h
  exact ⟨s, rfl, hs⟩

theorem cells?_get {w : World} {base : Nat} {a : Addr} {n : Nat} {cs : List Value} (h : w.cells? base a n = some cs) : cs.length = n ∧ ∀ i u, cs[i]? = some u → w.cell? (a.add i) = some u := by
  unfold World.cells? at h
  split at h
  · have hl := mapM_some_length h
    simp only [List.length_range] at hl
    refine ⟨hl, fun i u hu => ?_⟩
    have hi : i < n := by
      have := (List.getElem?_eq_some_iff.1 hu).1
      omega
    have := mapM_some_get h i i (by simp [hi])
    rw [this, hu]
  · cases h

theorem rd_slice {P : Program} {t e : TypeId} {e' : Nat} {α : Type} {d : Kd α} {Q : α → Prop} (hE : Rd P e d Q) (ht : P.underlying t = some (.slice e)) (hc : P.cellsOf e = d.sz) : Rd P t (Kd.slice e' d) (fun xs => (∀ x ∈ xs, Q x) ∧ xs.length ≤ maxLen) := by
  intro H enc w base sp held fuel cs x h
  rcases open_slice ht h with ⟨rfl, _⟩ | ⟨a, len, cap, m, n, D, Pl, rfl, _, hl, hm, hmm, _, hel⟩
  · exact ⟨[], ⟨none, 0, rfl, Nat.zero_le _, Kd.C_nil _ _⟩, by simp, by simp⟩
  · have hlm : len ≤ m := by rw [hmm]; split <;> omega
    have hch : ∀ i : Fin len, ∃ p : α, Q p ∧ ∃ c : List Value, c.length = d.sz ∧ d.K w p c ∧ ∀ j u, c[j]? = some u → w.cell? (a.add (i.val * d.sz + j)) = some u := by
      intro i
      obtain ⟨cs', h1, h2⟩ := hel i.val (by have := i.isLt; omega)
      obtain ⟨p, hK, hq⟩ := hE h2
      obtain ⟨hlen, hget⟩ := cells?_get h1
      rw [hc] at hlen hget
      refine ⟨p, hq, cs', hlen, hK, fun j u hu => ?_⟩
      rw [← Deep.add_add]
      exact hget j u hu
    let f : Fin len → α := fun i => Classical.choose (hch i)
    have hf : ∀ i, _ := fun i => Classical.choose_spec (hch i)
    have hll : (List.ofFn f).length = len := List.length_ofFn
    refine ⟨List.ofFn f, ⟨some a, cap, by rw [hll], by rw [hll]; exact hl, ?_⟩, ?_, by rw [hll]; omega⟩
    · rw [hll]
      refine ⟨hll, by unfold maxLen at hm; omega, fun _ => ⟨a, rfl, fun j p hj => ?_⟩⟩
      obtain ⟨hj1, rfl⟩ := List.getElem?_eq_some_iff.1 hj
      rw [hll] at hj1
      obtain ⟨_, c, hc1, hc2, hc3⟩ := hf ⟨j, hj1⟩
      exact ⟨c, hc1, by rw [List.getElem_ofFn]; exact hc2, hc3⟩
    · intro y hy
      obtain ⟨i, rfl⟩ := List.mem_ofFn.1 hy
      exact (hf i).1
end Go.Proofs.YtmbkmfdmpimegaaDoor
