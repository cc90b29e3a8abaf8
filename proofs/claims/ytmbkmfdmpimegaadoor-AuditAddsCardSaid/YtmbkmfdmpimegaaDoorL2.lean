/-
  Plain laws: what the document's Few answers.
-/
import Derived.Test.YtmbkmfdmpimegaaDoorL1
namespace Go.Proofs.YtmbkmfdmpimegaaDoor
open Go.RowKit Go.Lib Go.Proofs.YtmbkmfdmpimegaaDoorW.PrintWords Go.Proofs.YtmbkmfdmpimegaaDoor.PR

theorem rdE_get (l : List S30) (i : Nat) (h : i < l.length) : rd_T30 l (i : Int) = l[i] := by simp [rd_T30, List.getD, h]
/-- short texts -/
def shortE (x : S30) : Bool := decide (x.f2.size ≤ 100) && decide (x.f3.length ≤ 30) && x.f3.all fun s => decide (s.size ≤ 100)
/-- few entries, and short -/
def fewB (es : List S30) : Bool := decide (es.length ≤ 31) && es.all shortE
/-- as the document goes through them -/
def fewFrom : List S30 → Nat → Bool
  | [], _ => true
  | x :: l, i => if i > 30 then false else shortE x && fewFrom l (i + 1)
theorem fewFrom_eq : ∀ (l : List S30) (i : Nat), i ≤ 31 → fewFrom l i = (decide (i + l.length ≤ 31) && l.all shortE)
  | [], i, h => by simp [fewFrom, h]
  | x :: l, i, h => by
    unfold fewFrom
    by_cases hi : i > 30
    · rw [if_pos hi, decide_eq_false (by simp; omega)]; rfl
    · rw [if_neg hi, fewFrom_eq l (i + 1) (by omega), List.all_cons]
      rw [show i + (x :: l).length = i + 1 + l.length from by simp; omega]
      cases shortE x <;> simp
theorem few_l1 (es : List S30) (i : Nat) (hi : i < es.length) (hn : es.length ≤ 9223372036854775807) (h30 : es[i].f3.length ≤ 30) : ∀ (d j k : Nat), j + d = es[i].f3.length → d + 1 < k →
    ciceroneref43_Few.l1 k es (i : Int) (j : Int) = if (es[i].f3.drop j).all (fun s => decide (s.size ≤ 100)) = true then ciceroneref43_Few.l0 (k - d - 1) es ((i + 1 : Nat) : Int) else some false
  | 0, j, k, hj, hk => by
    obtain ⟨k, rfl⟩ : ∃ m, k = m + 1 := ⟨k - 1, by omega⟩
    have hw : wrap64 ((i : Int) + 1) = ((i + 1 : Nat) : Int) := by rw [w64 (by omega) (by omega)]; rfl
    rw [List.drop_of_length_le (by omega), if_pos (by rfl : ([].all fun s : ByteArray => decide (s.size ≤ 100)) = true)]
    simp only [ciceroneref43_Few.l1, rdE_get es i hi]
    rw [if_pos (by omega), if_pos (by omega), if_neg (by omega), hw]; rfl
  | d + 1, j, k, hj, hk => by
    obtain ⟨k, rfl⟩ : ∃ m, k = m + 1 := ⟨k - 1, by omega⟩
    have hw : wrap64 ((j : Int) + 1) = ((j + 1 : Nat) : Int) := by rw [w64 (by omega) (by omega)]; rfl
    have ih := few_l1 es i hi hn h30 d (j + 1) k (by omega) (by omega)
    rw [List.drop_eq_getElem_cons (by omega), List.all_cons]
    simp only [ciceroneref43_Few.l1, rdE_get es i hi]
    rw [if_pos (by omega), if_pos (by omega), if_pos (by omega), if_pos (by omega), rdOf_get _ j (by omega), hw, ih]
    by_cases hs : es[i].f3[j].size ≤ 100
    · rw [if_neg (by omega), decide_eq_true hs, Bool.true_and, show k + 1 - (d + 1) - 1 = k - d - 1 from by omega]
    · rw [if_pos (by omega), decide_eq_false hs, Bool.false_and, if_neg (by simp)]
theorem few_l0 (es : List S30) (hn : es.length ≤ 9223372036854775807) : ∀ (d i k : Nat), i + d = es.length → 1 + 40 * d < k → ciceroneref43_Few.l0 k es (i : Int) = some (fewFrom (es.drop i) i)
  | 0, i, k, hi, hk => by
    obtain ⟨k, rfl⟩ : ∃ m, k = m + 1 := ⟨k - 1, by omega⟩
    simp only [ciceroneref43_Few.l0]
    rw [if_neg (by omega), List.drop_of_length_le (by omega)]; rfl
  | d + 1, i, k, hi, hk => by
    obtain ⟨k, rfl⟩ : ∃ m, k = m + 2 := ⟨k - 2, by omega⟩
    rw [List.drop_eq_getElem_cons (by omega)]
    unfold fewFrom
    simp only [ciceroneref43_Few.l0, rdE_get es i (by omega), ciceroneref43_Few.j1]
    rw [if_pos (by omega)]
    by_cases h30 : i > 30
    · rw [if_pos (by omega), if_pos h30]; simp
    · rw [if_neg (by omega), if_neg h30, if_pos (by omega)]
      by_cases h1 : es[i].f2.size ≤ 100
      · rw [if_neg (by omega)]
        by_cases h2 : es[i].f3.length ≤ 30
        · rw [if_neg (by simp; omega)]
          have hl := few_l1 es i (by omega) hn h2 es[i].f3.length 0 k (by omega) (by omega)
          rw [show ((0 : Nat) : Int) = 0 from rfl, List.drop_zero] at hl
          rw [hl]
          have ih := few_l0 es hn d (i + 1) (k - es[i].f3.length - 1) (by omega) (by omega)
          rw [ih]
          simp only [shortE, decide_eq_true h1, decide_eq_true h2, Bool.true_and]
          split
          · rename_i h; rw [h, Bool.true_and]
          · rename_i h
            have h' : (es[i].f3.all fun s => decide (s.size ≤ 100)) = false := by simpa using h
            rw [h']; rfl
        · rw [if_pos (by simp; omega)]
          simp [shortE, h2]
      · rw [if_pos (by omega)]
        simp [shortE, h1]
theorem few_ref (k : Nat) (es : List S30) (hn : es.length ≤ 9223372036854775807) (hk : 1 + 40 * es.length < k) : ciceroneref43_Few.f k es = some (fewB es) := by
  unfold ciceroneref43_Few.f fewB
  have := few_l0 es hn es.length 0 k (by omega) (by omega)
  rw [show ((0 : Nat) : Int) = 0 from rfl] at this
  rw [this, List.drop_zero, fewFrom_eq _ _ (by omega), Nat.zero_add]
end Go.Proofs.YtmbkmfdmpimegaaDoor
