/-
  Plain laws: what the document's functions answer, as the printed functions have them. No program is walked.
-/
import Derived.Test.YtmbkmfdmpimegaaDoorA8
import Derived.Test.YtmbkmfdmpimegaaDoorPRx1
import Derived.Test.YtmbkmfdmpimegaaDoorPRx2
import Derived.Test.YtmbkmfdmpimegaaDoorPRx3
import Derived.Test.YtmbkmfdmpimegaaDoorPRx6
namespace Go.Proofs.YtmbkmfdmpimegaaDoor
open Go.RowKit Go.Lib Go.Proofs.YtmbkmfdmpimegaaDoorW.PrintWords Go.Proofs.YtmbkmfdmpimegaaDoor.PR

theorem w64 {n : Int} (h0 : -9223372036854775808 ≤ n) (h1 : n ≤ 9223372036854775807) : wrap64 n = n := by unfold wrap64; omega
theorem bt_get (s : ByteArray) (i : Nat) (h : i < s.size) : bt s (i : Int) = (s[i].toNat : Int) := by simp [bt, h]
theorem okC_iff (c : UInt8) : okC c = true ↔ (97 ≤ c.toNat ∧ c.toNat ≤ 122) ∨ (48 ≤ c.toNat ∧ c.toNat ≤ 57) ∨ c.toNat = 45 := by
  simp [okC, oddR]; omega

theorem name_l0 (s : ByteArray) (hs : s.size ≤ 1000) : ∀ (d i k : Nat), i + d = s.size → d < k → ciceroneref02_Name.l0 k s (i : Int) = some ((s.data.toList.drop i).all okC)
  | 0, i, k, hi, hk => by
    obtain ⟨k, rfl⟩ : ∃ m, k = m + 1 := ⟨k - 1, by omega⟩
    simp only [ciceroneref02_Name.l0]
    rw [if_neg (by omega), List.drop_of_length_le (by simp; omega)]; rfl
  | d + 1, i, k, hi, hk => by
    obtain ⟨k, rfl⟩ : ∃ m, k = m + 1 := ⟨k - 1, by omega⟩
    have ih := name_l0 s hs d (i + 1) k (by omega) (by omega)
    have hb := bt_get s i (by omega)
    have hw : wrap64 ((i : Int) + 1) = ((i + 1 : Nat) : Int) := by rw [w64 (by omega) (by omega)]; rfl
    rw [List.drop_eq_getElem_cons (by simp; omega), List.all_cons]
    have hg : (s.data.toList[i]'(by simp; omega)) = s[i] := rfl
    rw [hg]
    simp only [ciceroneref02_Name.l0]
    rw [if_pos (by omega), if_pos (by omega), hb, hw, ih]
    have hok := okC_iff s[i]
    by_cases h : okC s[i] = true
    · rw [h, Bool.true_and]
      have h' := hok.1 h
      repeat' split
      all_goals first | rfl | (exfalso; omega)
    · have h' : ¬ _ := fun x => h (hok.2 x)
      have h2 : okC s[i] = false := by simpa using h
      rw [h2, Bool.false_and]
      repeat' split
      all_goals first | rfl | (exfalso; omega)
theorem name_ref (k : Nat) (s : ByteArray) (hk : 30 ≤ k) : ciceroneref02_Name.f k s = some (nameB s) := by
  obtain ⟨k, rfl⟩ : ∃ m, k = m + 1 := ⟨k - 1, by omega⟩
  unfold ciceroneref02_Name.f nameB
  by_cases h1 : (s.size : Int) < 1
  · rw [if_pos h1]
    simp only [ciceroneref02_Name.j0, if_true]
    rw [decide_eq_false (by omega)]; rfl
  · rw [if_neg h1]
    simp only [ciceroneref02_Name.j0]
    by_cases h2 : (s.size : Int) > 24
    · rw [if_pos (by simp; omega), decide_eq_false (p := s.size ≤ 24) (by omega)]; simp
    · rw [if_neg (by simp; omega)]
      have := name_l0 s (by omega) s.size 0 k (by omega) (by omega)
      rw [show ((0 : Nat) : Int) = 0 from rfl] at this
      rw [this, List.drop_zero, decide_eq_true (p := 1 ≤ s.size) (by omega), decide_eq_true (p := s.size ≤ 24) (by omega)]; rfl

theorem rdOf_get (l : List ByteArray) (i : Nat) (h : i < l.length) : rdOf ByteArray.empty l (i : Int) = l[i] := by simp [rdOf, List.getD, h]
theorem may_l0 (a b : Int) (p : ByteArray) (is : List ByteArray) (e : Int) (hs : is.length ≤ 1000) : ∀ (d i k : Nat), i + d = is.length → d + 40 < k → ciceroneref43_May.l0 k (i : Int) a b p is e = some ((is.drop i).all nameB)
  | 0, i, k, hi, hk => by
    obtain ⟨k, rfl⟩ : ∃ m, k = m + 1 := ⟨k - 1, by omega⟩
    simp only [ciceroneref43_May.l0]
    rw [if_neg (by omega), List.drop_of_length_le (by omega)]; rfl
  | d + 1, i, k, hi, hk => by
    obtain ⟨k, rfl⟩ : ∃ m, k = m + 1 := ⟨k - 1, by omega⟩
    have ih := may_l0 a b p is e hs d (i + 1) k (by omega) (by omega)
    have hw : wrap64 ((i : Int) + 1) = ((i + 1 : Nat) : Int) := by rw [w64 (by omega) (by omega)]; rfl
    rw [List.drop_eq_getElem_cons (by omega), List.all_cons]
    simp only [ciceroneref43_May.l0]
    rw [if_pos (by omega), if_pos (by omega), rdOf_get is i (by omega), name_ref k _ (by omega), hw, ih]
    simp only [Option.bind_some]
    cases nameB is[i] <;> simp
theorem may_ref (k : Nat) (o n : Int) (p : ByteArray) (is : List ByteArray) (e : Int) (hk : 2000 ≤ k) : ciceroneref43_May.f k o n p is e = some (mayE o n p is) := by
  have hj : ∀ o n e, ciceroneref43_May.j0 k true o n p is e = some false := by
    intro o n e
    obtain ⟨k, rfl⟩ : ∃ m, k = m + 1 := ⟨k - 1, by omega⟩
    simp only [ciceroneref43_May.j0, if_true]
  unfold ciceroneref43_May.f mayE
  by_cases h1 : o < 0
  · rw [if_pos h1, hj, decide_eq_false (p := 0 ≤ o) (by omega)]; rfl
  rw [if_neg h1, decide_eq_true (p := 0 ≤ o) (by omega)]
  by_cases h2 : o > 1048576
  · rw [if_pos h2, hj, decide_eq_false (p := o ≤ 1048576) (by omega)]; rfl
  rw [if_neg h2, decide_eq_true (p := o ≤ 1048576) (by omega)]
  by_cases h3 : n < 0
  · rw [if_pos h3, hj, decide_eq_false (p := 0 ≤ n) (by omega)]; rfl
  rw [if_neg h3, decide_eq_true (p := 0 ≤ n) (by omega)]
  by_cases h4 : n > 1099511627776
  · rw [if_pos h4, hj, decide_eq_false (p := n ≤ 1099511627776) (by omega)]; rfl
  rw [if_neg h4, decide_eq_true (p := n ≤ 1099511627776) (by omega), name_ref k p (by omega)]
  simp only [Option.bind_some, Bool.true_and]
  cases hp : nameB p
  · rw [if_neg (by simp), hj]; rfl
  · rw [if_pos rfl]
    obtain ⟨k, rfl⟩ : ∃ m, k = m + 1 := ⟨k - 1, by omega⟩
    simp only [ciceroneref43_May.j0]
    by_cases h5 : (is.length : Int) > 1000
    · rw [if_pos (by simp; omega), decide_eq_false (p := is.length ≤ 1000) (by omega)]; rfl
    · rw [if_neg (by simp; omega), decide_eq_true (p := is.length ≤ 1000) (by omega)]
      have := may_l0 o n p is e (by omega) is.length 0 k (by omega) (by omega)
      rw [show ((0 : Nat) : Int) = 0 from rfl] at this
      rw [this, List.drop_zero]; rfl

/-! ### the hash -/
def wcount (ws : List ByteArray) : Nat := (ws.map fun w => w.size + 2).sum
theorem hash_l1 (ws : List ByteArray) (j : Nat) (hj : j < ws.length) (hn : ws.length ≤ 4000000000) (hs : ws[j].size ≤ 4000000000) : ∀ (d i k : Nat) (h : Int), i + d = ws[j].size → d + 2 ≤ k →
    ciceroneref26_Hash.l1 k ws h (j : Int) (i : Int) = ciceroneref26_Hash.l0 (k - d - 2) ws (hstep (hbytes h (ws[j].data.toList.drop i)) 256) ((j + 1 : Nat) : Int)
  | 0, i, k, h, hi, hk => by
    obtain ⟨k, rfl⟩ : ∃ m, k = m + 2 := ⟨k - 2, by omega⟩
    have hw : wrap64 ((i : Int) + 1) = ((i + 1 : Nat) : Int) := by rw [w64 (by omega) (by omega)]; rfl
    have hwj : wrap64 ((j : Int) + 1) = ((j + 1 : Nat) : Int) := by rw [w64 (by omega) (by omega)]; rfl
    rw [List.drop_of_length_le (by simp; omega)]
    simp only [ciceroneref26_Hash.l1, rdOf_get ws j hj]
    rw [if_pos (by omega), if_pos (by omega), if_pos (by omega), if_neg (by omega), hw, if_pos (by omega), if_pos (by omega), if_neg (by omega), hwj]
    rfl
  | d + 1, i, k, h, hi, hk => by
    obtain ⟨k, rfl⟩ : ∃ m, k = m + 1 := ⟨k - 1, by omega⟩
    have hw : wrap64 ((i : Int) + 1) = ((i + 1 : Nat) : Int) := by rw [w64 (by omega) (by omega)]; rfl
    have ih := hash_l1 ws j hj hn hs d (i + 1) k (hstep h (ws[j][i].toNat : Int)) (by omega) (by omega)
    rw [hbytes_drop h ws[j] i (by omega)]
    rw [show k + 1 - (d + 1) - 2 = k - d - 2 from by omega, ← ih]
    simp only [ciceroneref26_Hash.l1, rdOf_get ws j hj]
    rw [if_pos (by omega), if_pos (by omega), if_pos (by omega), if_pos (by omega), if_pos (by omega), hw, bt_get ws[j] i (by omega), u64_byte]
    rfl
theorem hash_l0 (ws : List ByteArray) (hn : ws.length ≤ 4000000000) (hs : ∀ w ∈ ws, w.size ≤ 4000000000) : ∀ (d j k : Nat) (h : Int), j + d = ws.length → wcount (ws.drop j) + d < k →
    ciceroneref26_Hash.l0 k ws h (j : Int) = some (hmix3 (hmix2 (hmix1 (hwords h (ws.drop j)))))
  | 0, j, k, h, hi, hk => by
    obtain ⟨k, rfl⟩ : ∃ m, k = m + 1 := ⟨k - 1, by omega⟩
    rw [List.drop_of_length_le (by omega)]
    simp only [ciceroneref26_Hash.l0]
    rw [if_neg (by omega)]
    rfl
  | d + 1, j, k, h, hi, hk => by
    obtain ⟨k, rfl⟩ : ∃ m, k = m + 1 := ⟨k - 1, by omega⟩
    have hj : j < ws.length := by omega
    have hd := List.drop_eq_getElem_cons hj
    have hc : wcount (ws.drop j) = ws[j].size + 2 + wcount (ws.drop (j + 1)) := by rw [hd]; simp only [wcount, List.map_cons, List.sum_cons]
    have h1 := hash_l1 ws j hj hn (hs _ (List.getElem_mem hj)) ws[j].size 0 k h (by omega) (by omega)
    rw [show ((0 : Nat) : Int) = 0 from rfl] at h1
    have ih := hash_l0 ws hn hs d (j + 1) (k - ws[j].size - 2) (hstep (hbytes h ws[j].data.toList) 256) (by omega) (by omega)
    simp only [ciceroneref26_Hash.l0]
    rw [if_pos (by omega), h1, List.drop_zero, ih, hwords_drop h ws j hj]
    rfl
theorem hash_ref (k : Nat) (seed : Int) (ws : List ByteArray) (hn : ws.length ≤ 4000000000) (hs : ∀ w ∈ ws, w.size ≤ 4000000000) (hk : wcount ws + ws.length < k) : ciceroneref26_Hash.f k seed ws = some (hashI seed ws) := by
  unfold ciceroneref26_Hash.f hashI
  have := hash_l0 ws hn hs ws.length 0 k (IntKind.u64.wrap (seed + 11400714819323198485)) (by omega) (by rw [List.drop_zero]; omega)
  rw [show ((0 : Nat) : Int) = 0 from rfl] at this
  rw [this, List.drop_zero]

/-! ### digits -/
theorem dig_byte (c : Nat) (h : c < 10) : strOfNums [(48 + (c : Int)) % 256] = ⟨#[UInt8.ofNat (48 + c)]⟩ := by
  have : ((48 + (c : Int)) % 256).toNat = 48 + c := by omega
  simp [strOfNums, this]
theorem app_data (a b : ByteArray) : (a ++ b).data.toList = a.data.toList ++ b.data.toList := by simp
theorem ba_ext {a b : ByteArray} (h : a.data.toList = b.data.toList) : a = b := by
  cases a; cases b; simpa [Array.toList_inj] using h
theorem digits_l0 : ∀ (k u : Nat) (t : ByteArray), u < 10 ^ k → u < 9223372036854775807 → t.size + k ≤ 1000 → 0 < k → ciceroneref02_Digits.l0 k (u : Int) t = some (⟨(Lib.decDigits u).toArray⟩ ++ t)
  | 0, u, t, h, _, _, hk => by omega
  | k + 1, u, t, h, hu, ht, hk => by
    simp only [ciceroneref02_Digits.l0, Option.bind_some]
    by_cases h9 : u < 10
    · rw [if_neg (by omega), w64 (by omega) (by omega), dig_byte u h9]
      rw [if_pos (by show 1 + t.size ≤ _; omega), Lib.decDigits_one h9]
    · have hk' : 0 < k := by
        rcases Nat.eq_zero_or_pos k with h0 | h0
        · subst h0; simp at h; omega
        · exact h0
      have e1 : Int.tmod (u : Int) 10 = ((u % 10 : Nat) : Int) := by rw [Int.tmod_eq_emod_of_nonneg (by omega)]; omega
      have e2 : Int.tdiv (u : Int) 10 = ((u / 10 : Nat) : Int) := by rw [Int.tdiv_eq_ediv_of_nonneg (by omega)]; omega
      rw [if_pos (by omega), e1, e2, w64 (n := 48 + ((u % 10 : Nat) : Int)) (by omega) (by omega), w64 (n := ((u / 10 : Nat) : Int)) (by omega) (by omega), dig_byte (u % 10) (by omega)]
      rw [if_pos (by show 1 + t.size ≤ _; omega)]
      have ih := digits_l0 k (u / 10) (⟨#[UInt8.ofNat (48 + u % 10)]⟩ ++ t) (by rw [Nat.pow_succ] at h; omega) (by omega) (by rw [ByteArray.size_append]; show 1 + t.size + k ≤ 1000; omega) hk'
      rw [ih]
      congr 1
      apply ba_ext
      rw [app_data, app_data, app_data]
      conv => rhs; rw [Lib.decDigits, dif_neg h9]
      simp
theorem digits_ref (k : Nat) (n : Int) (h0 : 0 ≤ n) (h1 : n ≤ 1099511627776) (hk : 30 ≤ k) (hk2 : k ≤ 900) : ciceroneref02_Digits.f k n = some (itoaB n) := by
  obtain ⟨u, rfl⟩ : ∃ u : Nat, n = u := ⟨n.toNat, by omega⟩
  unfold ciceroneref02_Digits.f
  rw [digits_l0 k u _ (by have h := Nat.pow_le_pow_right (n := 10) (by omega) hk; have : 1099511627776 < 10 ^ 30 := by decide
                          omega) (by omega) (by show 0 + k ≤ 1000; omega) (by omega)]
  congr 1
  apply ba_ext
  rw [app_data]
  simp [itoaB, Lib.itoa_nonneg]
theorem digits_ev (k : Nat) (n : Int) (h0 : 0 ≤ n) (h1 : n ≤ 1099511627776) (hk : 30 ≤ k) : ciceroneref02_Digits.f k n = some (itoaB n) :=
  at_rounds (ciceroneref02_Digits.mono n) hk (digits_ref 30 n h0 h1 (by omega) (by omega))

theorem wcount_le (ws : List ByteArray) (m : Nat) (h : ∀ w ∈ ws, w.size ≤ m) : wcount ws ≤ (m + 2) * ws.length := by
  induction ws with
  | nil => simp [wcount]
  | cons a l ih =>
    have h1 := h a List.mem_cons_self
    have h2 := ih (fun w hw => h w (List.mem_cons_of_mem _ hw))
    simp only [wcount, List.map_cons, List.sum_cons, List.length_cons] at h2 ⊢
    have : (m + 2) * (l.length + 1) = (m + 2) * l.length + (m + 2) := by rw [Nat.mul_add, Nat.mul_one]
    omega
theorem sum_ref (k : Nat) (ahead o n : Int) (p : ByteArray) (is : List ByteArray) (e : Int) (h : mayE o n p is = true) (hk : 40000 ≤ k) : ciceroneref43_Sum.f k ahead o n p is e = some (sumE ahead o n p is) := by
  have hm := mayE_parts h
  unfold ciceroneref43_Sum.f sumE
  rw [digits_ev k o (by omega) (by omega) (by omega), digits_ev k n (by omega) (by omega) (by omega)]
  simp only [Option.bind_some]
  rw [if_pos (by simp; omega)]
  have hall : ∀ w ∈ [itoaB o, itoaB n, p] ++ is, w.size ≤ 24 := by
    intro w hw
    simp only [List.cons_append, List.nil_append, List.mem_cons] at hw
    rcases hw with rfl | rfl | rfl | hw
    · have := itoaB_size21 o (by omega) (by omega); omega
    · have := itoaB_size21 n (by omega) (by omega); omega
    · exact nameB_size hm.2.2.2.2.1
    · exact nameB_size (hm.2.2.2.2.2.2 w hw)
  have hc := wcount_le _ 24 hall
  have hl : ([itoaB o, itoaB n, p] ++ is).length ≤ 1003 := by simp; omega
  have hc2 : (24 + 2) * ([itoaB o, itoaB n, p] ++ is).length ≤ 26 * 1003 := Nat.mul_le_mul_left _ hl
  rw [hash_ref k ahead _ (by omega) (fun w hw => by have := hall w hw; omega) (by omega)]
  rfl
end Go.Proofs.YtmbkmfdmpimegaaDoor
