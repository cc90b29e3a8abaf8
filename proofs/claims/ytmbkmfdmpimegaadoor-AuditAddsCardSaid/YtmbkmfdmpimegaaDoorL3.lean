/-
  Plain laws: what the document's Big answers; a line and its items as the document puts them together.
-/
import Derived.Test.YtmbkmfdmpimegaaDoorA7
import Derived.Test.YtmbkmfdmpimegaaDoorL1
namespace Go.Proofs.YtmbkmfdmpimegaaDoor
open Go.RowKit Go.Lib Go.Proofs.YtmbkmfdmpimegaaDoorW.PrintWords Go.Proofs.YtmbkmfdmpimegaaDoor.PR

theorem wu64 {n : Int} (h0 : 0 ≤ n) (h1 : n < 18446744073709551616) : IntKind.u64.wrap n = n := by
  simp [IntKind.wrap, IntKind.bits, IntKind.signed]; omega
theorem ne_nil_app (c : UInt8) (t : ByteArray) : ¬ ((⟨#[c]⟩ : ByteArray) ++ t).toList = ([] : List UInt8) := by
  rw [ByteArray.toList_eq]
  simp
theorem big_l0 : ∀ (k u : Nat) (t : ByteArray), u < 10 ^ k → u < 18446744073709551616 → t.size + k ≤ 1000 → 0 < u → ciceroneref43_Big.l0 (k + 1) (u : Int) t = some (⟨(Lib.decDigits u).toArray⟩ ++ t)
  | 0, u, t, h, _, _, hp => by simp at h; omega
  | k + 1, u, t, h, hu, ht, hp => by
    have e1 : Int.tmod (u : Int) 10 = ((u % 10 : Nat) : Int) := by rw [Int.tmod_eq_emod_of_nonneg (by omega)]; omega
    have e2 : Int.tdiv (u : Int) 10 = ((u / 10 : Nat) : Int) := by rw [Int.tdiv_eq_ediv_of_nonneg (by omega)]; omega
    rw [ciceroneref43_Big.l0]
    simp only [Option.bind_some]
    rw [if_pos (by omega), e1, e2, wu64 (n := 48 + ((u % 10 : Nat) : Int)) (by omega) (by omega), wu64 (n := ((u / 10 : Nat) : Int)) (by omega) (by omega), dig_byte (u % 10) (by omega)]
    rw [if_pos (by show 1 + t.size ≤ _; omega)]
    by_cases h9 : u < 10
    · rw [show u / 10 = 0 from by omega, show u % 10 = u from by omega, Lib.decDigits_one h9]
      simp only [ciceroneref43_Big.l0]
      rw [if_neg (by omega), if_neg (ne_nil_app _ _)]
    · rw [big_l0 k (u / 10) _ (by rw [Nat.pow_succ] at h; omega) (by omega) (by rw [ByteArray.size_append]; show 1 + t.size + k ≤ 1000; omega) (by omega)]
      congr 1
      apply ba_ext
      rw [app_data, app_data, app_data]
      conv => rhs; rw [Lib.decDigits, dif_neg h9]
      simp
theorem big_ref (u : Nat) (hu : u < 18446744073709551616) : ciceroneref43_Big.f 30 (u : Int) = some (utoaB u) := by
  unfold ciceroneref43_Big.f
  rcases Nat.eq_zero_or_pos u with h | h
  · subst h
    unfold utoaB
    have hd : strOfNums [IntKind.u64.wrap (48 + Int.tmod ((0 : Nat) : Int) 10) % 256] = ⟨#[48]⟩ := by decide
    rw [Lib.decDigits_one (by decide), ciceroneref43_Big.l0, if_neg (by decide), if_pos (by rw [ByteArray.toList_eq]), Option.bind_some, hd, if_pos (by decide)]
    rw [show IntKind.u64.wrap (Int.tdiv ((0 : Nat) : Int) 10) = 0 from by decide, ciceroneref43_Big.l0, if_neg (by decide), if_neg (ne_nil_app _ _)]
    rfl
  · rw [big_l0 29 u _ (by omega) hu (by decide) h]
    congr 1
    apply ba_ext
    rw [app_data]
    simp [utoaB]
theorem itemsB_succ (is : List ByteArray) (j : Nat) (hj : j < is.length) : itemsB (is.take (j + 1)) = if j = 0 then is[0]'(by omega) else itemsB (is.take j) ++ ⟨#[44]⟩ ++ is[j] := by
  by_cases h0 : j = 0
  · subst h0
    rw [if_pos rfl]
    cases is with
    | nil => simp at hj
    | cons a l =>
      unfold itemsB joinB
      rw [if_pos (by simp)]
      apply ba_ext
      simp [Lib.join_one]
  · rw [if_neg h0]
    cases is with
    | nil => simp at hj
    | cons a l =>
      obtain ⟨j, rfl⟩ : ∃ m, j = m + 1 := ⟨j - 1, by omega⟩
      have hl : j < l.length := by simpa using hj
      unfold itemsB joinB
      rw [if_pos (by simp), if_pos (by simp)]
      apply ba_ext
      rw [app_data, app_data]
      simp only [List.take_succ_cons, List.map_cons, Lib.join_cons, List.getElem_cons_succ]
      rw [List.take_succ_eq_append_getElem hl, List.map_append]
      simp [Lib.joinTail, -List.map_take]
theorem line_doc (acc : ByteArray) (x : S30) : acc ++ itoaB x.f0 ++ ⟨#[32]⟩ ++ itoaB x.f1 ++ ⟨#[32]⟩ ++ x.f2 ++ ⟨#[32]⟩ ++ itemsB x.f3 ++ ⟨#[32]⟩ ++ utoaB x.f4.toNat ++ ⟨#[10]⟩ = acc ++ (lineB x ++ ⟨#[10]⟩) := by
  apply ba_ext
  simp [lineB, joinB, Lib.join_cons, Lib.joinTail]
end Go.Proofs.YtmbkmfdmpimegaaDoor
