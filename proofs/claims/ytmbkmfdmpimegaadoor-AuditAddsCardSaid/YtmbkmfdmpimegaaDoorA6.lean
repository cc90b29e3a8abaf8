/-
  The walks of begin, Entry.line, Chain.Encode and Chain.Entries.
-/
import Derived.Test.YtmbkmfdmpimegaaDoorA5
namespace Go.Proofs.YtmbkmfdmpimegaaDoor
open Go.RowKit Go.Lib Go.Sort Go.Proofs.YtmbkmfdmpimegaaDoorW.PrintWords Go.Proofs.YtmbkmfdmpimegaaDoor.PR

theorem ret_str {a b : ByteArray} (h : a = b) : Ending.returned (.string a) = .returned (.string b) := by rw [h]
theorem utoaB_size (u : Nat) (h : u < 18446744073709551616) : (utoaB u).size ≤ 20 := by
  have h := Lib.nDigits_le20 u h
  have e : (utoaB u).size = (Lib.decDigits u).length := by simp [utoaB, ByteArray.size]
  rw [e, Lib.decDigits_length]; exact h
theorem itoaB_size21 (n : Int) (h0 : -9223372036854775808 ≤ n) (h1 : n ≤ 9223372036854775807) : (itoaB n).size ≤ 21 := by
  have h := Lib.itoa_length_le n h0 h1
  have e : (itoaB n).size = (Lib.itoa n).length := by simp [itoaB, ByteArray.size]
  omega

def beginB (u : Nat) : ByteArray := ⟨#[97, 117, 100, 105, 116, 32]⟩ ++ utoaB u
theorem begin_calls (u : Nat) (hu : u < 18446744073709551616) (w : World) (ht : Tab w) :
    Calls Tryd.prog 31 #[.int .u64 u] w fun e w' => e = .returned (.string (beginB u)) ∧ Below w.heap.size w w' := by
  have hs := utoaB_size u hu
  have HT := Aside0.mk ht
  clear ht
  go_enter Tryd.func31, Tryd.ntmps31
  go_wp2_with (go_at_call 44; refine (fmtU_calls u hu _ HT.out).mono ?_; rintro e w' ⟨rfl, hb⟩)
  go_ret
  exact ⟨rfl, hb⟩

/-- texts, a sign between each two -/
def joinB (ws : List ByteArray) (sep : ByteArray) : ByteArray := ⟨(Lib.join (ws.map (·.data.toList)) sep.data.toList).toArray⟩
theorem lens_le (l : List (List UInt8)) (m : Nat) (h : ∀ x ∈ l, x.length ≤ m) : Lib.lens l ≤ m * l.length := by
  induction l with
  | nil => simp [Lib.lens]
  | cons a l ih =>
    have h1 := h a List.mem_cons_self
    have h2 := ih (fun x hx => h x (List.mem_cons_of_mem _ hx))
    simp only [Lib.lens, List.map_cons, List.sum_cons, List.length_cons] at h2 ⊢
    have : m * (l.length + 1) = m * l.length + m := by rw [Nat.mul_add, Nat.mul_one]
    omega
theorem join_bound (ws : List ByteArray) (m : Nat) (h : ∀ x ∈ ws, x.size ≤ m) (c : UInt8) : (Lib.join (ws.map (·.data.toList)) [c]).length ≤ (m + 1) * ws.length := by
  cases ws with
  | nil => simp [Lib.join_nil]
  | cons a l =>
    rw [List.map_cons, Lib.join_length]
    have := lens_le ((a :: l).map (·.data.toList)) m (by
      intro x hx
      simp only [List.mem_map] at hx
      obtain ⟨y, hy, rfl⟩ := hx
      simpa using h y hy)
    have e2 : ([c] : List UInt8).length = 1 := rfl
    rw [e2, Nat.one_mul, List.length_map, List.length_cons]
    simp only [List.length_map, List.length_cons, List.map_cons] at this
    have e : (m + 1) * (l.length + 1) = m * (l.length + 1) + (l.length + 1) := by rw [Nat.add_mul, Nat.one_mul]
    omega
theorem join_calls (A : Option Addr) (c : Nat) (ws : List ByteArray) (s : UInt8) (m : Nat) (w : World) (hr : Kd.C Kd.string w A ws.length ws) (hc : ws.length ≤ c) (hm : ∀ x ∈ ws, x.size ≤ m) (hmm : (m + 1) * ws.length ≤ 140737488355328) :
    Calls Tryd.prog 45 #[.slice A ws.length c, .string ⟨#[s]⟩] w fun e w' => e = .returned (.string (joinB ws ⟨#[s]⟩)) ∧ Below w.heap.size w w' := by
  by_cases hn : ws.length = 0
  · obtain rfl : ws = [] := List.length_eq_zero_iff.1 hn
    refine (Tryd.strings_Join_none A c ⟨#[s]⟩ w).mono ?_
    rintro e w' ⟨rfl, rfl⟩
    exact ⟨rfl, Below.refl _ _⟩
  · cases A with
    | none => obtain ⟨ad, e, _⟩ := hr.2.2 (by omega); cases e
    | some ad =>
      have hs := strs_spot hr (by omega)
      obtain ⟨b, off, sp⟩ := ad
      obtain rfl : sp = none := hs
      have hget : ∀ (j : Nat) x, ws[j]? = some x → w.cell? ⟨b, off + j, none⟩ = some (.string x) := by
        intro j x hx
        obtain ⟨hj, rfl⟩ := List.getElem?_eq_some_iff.1 hx
        obtain ⟨ad, e, hc⟩ := strs_get hr j hj
        obtain rfl : (⟨b, off, none⟩ : Addr) = ad := by injection e
        rwa [Lib.add_plain] at hc
      have hb : b < w.heap.size := by
        have := hget 0 ws[0] (List.getElem?_eq_getElem (by omega))
        exact World.block_lt_of_cell? w _ this
      have hlen := join_bound ws m hm s
      exact Tryd.strings_Join b off c ws ⟨#[s]⟩ w hget hb (by have : ws.length ≤ (m + 1) * ws.length := Nat.le_mul_of_pos_left _ (by omega); omega) hc (by simpa using Nat.le_trans hlen hmm)

/-- an entry's things in a line -/
def itemsB (is : List ByteArray) : ByteArray := if 0 < is.length then joinB is ⟨#[44]⟩ else ⟨#[46]⟩
/-- an entry's line -/
def lineB (x : S30) : ByteArray := joinB [itoaB x.f0, itoaB x.f1, x.f2, itemsB x.f3, utoaB x.f4.toNat] ⟨#[32]⟩
/-- an entry that may be, with a sum of 64 bits -/
def Fine (x : S30) : Prop := mayE x.f0 x.f1 x.f2 x.f3 = true ∧ 0 ≤ x.f4 ∧ x.f4 < 18446744073709551616
theorem nameB_size {s : ByteArray} (h : nameB s = true) : s.size ≤ 24 := by
  simp [nameB] at h; exact h.1.2
theorem mayE_parts {o n : Int} {p : ByteArray} {is : List ByteArray} (h : mayE o n p is = true) : 0 ≤ o ∧ o ≤ 1048576 ∧ 0 ≤ n ∧ n ≤ 1099511627776 ∧ nameB p = true ∧ is.length ≤ 1000 ∧ ∀ s ∈ is, nameB s = true := by
  simp only [mayE, Bool.and_eq_true, decide_eq_true_eq, List.all_eq_true] at h
  obtain ⟨⟨⟨⟨⟨⟨a, b⟩, c⟩, d⟩, e⟩, f⟩, g⟩ := h
  exact ⟨a, b, c, d, e, f, g⟩
theorem itemsB_size (is : List ByteArray) (h : is.length ≤ 1000) (hs : ∀ s ∈ is, s.size ≤ 24) : (itemsB is).size ≤ 25000 := by
  unfold itemsB
  split
  · have := join_bound is 24 hs 44
    have e : (joinB is ⟨#[44]⟩).size = (Lib.join (is.map (·.data.toList)) [44]).length := by simp [joinB, ByteArray.size]
    rw [e]
    have : (24 + 1) * is.length ≤ 25 * 1000 := Nat.mul_le_mul_left _ h
    omega
  · decide

set_option maxRecDepth 100000 in
set_option maxHeartbeats 2000000 in
theorem line_calls (x : S30) (A : Option Addr) (c : Nat) (w : World) (hr : Kd.C Kd.string w A x.f3.length x.f3) (hc : x.f3.length ≤ c) (hx : Fine x) (ht : Tab w) :
    Calls Tryd.prog 32 #[entV x (.slice A x.f3.length c)] w fun e w' => e = .returned (.string (lineB x)) ∧ Below w.heap.size w w' := by
  have HX := Aside0.mk hx
  have HR := Aside0.mk hr
  have HT := Aside0.mk ht
  have HC := Aside0.mk hc
  have hmy := mayE_parts hx.1
  have hn3 : x.f3.length ≤ 1000 := hmy.2.2.2.2.2.1
  have HM := Aside0.mk hmy
  have HU := Aside0.mk hx.2
  obtain ⟨u, hu⟩ : ∃ u : Nat, x.f4 = u := ⟨x.f4.toNat, by have := hx.2; omega⟩
  have HU2 := Aside0.mk hu
  clear hx hr ht hc hmy hu
  unfold entV
  rw [HU2.out]
  have hlst : ∀ s ∈ [itoaB x.f0, itoaB x.f1, x.f2, itemsB x.f3, utoaB u], s.size ≤ 25000 := by
    intro s hs
    simp only [List.mem_cons, List.not_mem_nil, or_false] at hs
    have hm := HM.out
    have hu := HU.out
    have hu2 := HU2.out
    rcases hs with rfl | rfl | rfl | rfl | rfl
    · have := itoaB_size21 x.f0 (by omega) (by omega); omega
    · have := itoaB_size21 x.f1 (by omega) (by omega); omega
    · have := nameB_size hm.2.2.2.2.1; omega
    · exact itemsB_size _ hn3 (fun s hs => nameB_size (hm.2.2.2.2.2.2 s hs))
    · have := utoaB_size u (by omega); omega
  have HL := Aside0.mk hlst
  clear hlst
  have hfin : lineB x = joinB [itoaB x.f0, itoaB x.f1, x.f2, itemsB x.f3, utoaB u] ⟨#[32]⟩ := by unfold lineB; rw [HU2.out]; rfl
  have HFin := Aside0.mk hfin
  clear hfin
  by_cases hpos : 0 < x.f3.length
  · go_enter Tryd.func32, Tryd.ntmps32
    go_wp2_with fail
    refine (join_calls A c x.f3 44 24 _ (Kd.C_alloc HR.out _) HC.out (fun s hs => nameB_size (HM.out.2.2.2.2.2.2 s hs)) (by omega)).mono ?_
    rintro e W0 ⟨rfl, hb⟩
    have b1 := blk_below (heap_alloc_new w _) hb
    have HB := Aside0.mk ((below_alloc (Below.refl w.heap.size w) _).trans (hb.mono (by simp)))
    obtain ⟨c0, c1, c2, c3, c4, cs⟩ := five b1
    clear hb b1
    have HI : Aside0 (itemsB x.f3 = joinB x.f3 ⟨#[44]⟩) := ⟨by rw [itemsB, if_pos hpos]⟩
    have HQ0 := Aside0.mk (below_drew (Below.refl W0.heap.size W0))
    go_wp2_with fail
    go_region_held3 (fun W => W.cell? ⟨w.heap.size, 0, none⟩ = some (.int .i64 x.f0) ∧ W.cell? ⟨w.heap.size, 1, none⟩ = some (.int .i64 x.f1) ∧ W.cell? ⟨w.heap.size, 2, none⟩ = some (.string x.f2) ∧ W.cell? ⟨w.heap.size, 4, none⟩ = some (.int .u64 u)) (first | exact ⟨pw_cell_below (‹Aside0 (Below W0.heap.size W0 _)›).out c0, pw_cell_below (‹Aside0 (Below W0.heap.size W0 _)›).out c1, pw_cell_below (‹Aside0 (Below W0.heap.size W0 _)›).out c2, pw_cell_below (‹Aside0 (Below W0.heap.size W0 _)›).out c4⟩ | exact ⟨pw_cell_below (below_alloc (‹Aside0 (Below W0.heap.size W0 _)›).out _) c0, pw_cell_below (below_alloc (‹Aside0 (Below W0.heap.size W0 _)›).out _) c1, pw_cell_below (below_alloc (‹Aside0 (Below W0.heap.size W0 _)›).out _) c2, pw_cell_below (below_alloc (‹Aside0 (Below W0.heap.size W0 _)›).out _) c4⟩) (first | (go_at_call 42; refine (itoa_calls _ (by have := HM.out; omega) (by have := HM.out; omega) _ (HT.out.below (HB.out.trans ((‹Aside0 (Below W0.heap.size W0 _)›).out.mono HB.out.size)))).mono ?_; (rintro e w' ⟨rfl, hb⟩); have HQ1 := Aside0.mk ((‹Aside0 (Below W0.heap.size W0 _)›).out.trans (hb.mono (‹Aside0 (Below W0.heap.size W0 _)›).out.size)); clear hb) | (go_at_call 44; refine (fmtU_calls u (by have := HU.out; have := HU2.out; omega) _ (HT.out.below (HB.out.trans ((‹Aside0 (Below W0.heap.size W0 _)›).out.mono HB.out.size)))).mono ?_; (rintro e w' ⟨rfl, hb⟩); have HQ1 := Aside0.mk ((‹Aside0 (Below W0.heap.size W0 _)›).out.trans (hb.mono (‹Aside0 (Below W0.heap.size W0 _)›).out.size)); clear hb) | (go_at_call 45; refine (join_calls _ _ [itoaB x.f0, itoaB x.f1, x.f2, joinB x.f3 ⟨#[44]⟩, utoaB u] 32 25000 _ (strs_lit _ [itoaB x.f0, itoaB x.f1, x.f2, joinB x.f3 ⟨#[44]⟩, utoaB u] (by simp)) (by simp) (by rw [← HI.out]; exact HL.out) (by simp)).mono ?_; (rintro e w' ⟨rfl, hb⟩); have HQ1 := Aside0.mk ((below_alloc (‹Aside0 (Below W0.heap.size W0 _)›).out _).trans (hb.mono (by have := (‹Aside0 (Below W0.heap.size W0 _)›).out.size; simp; omega))); clear hb))
    all_goals
      have HQ2 := Aside0.mk (HB.out.trans ((‹Aside0 (Below W0.heap.size W0 _)›).out.mono HB.out.size))
      go_wp2
      go_ret
      exact ⟨ret_str (by rw [HFin.out, HI.out]), HQ2.out⟩
  · have HI : Aside0 (itemsB x.f3 = ⟨#[46]⟩) := ⟨by rw [itemsB, if_neg hpos]⟩
    go_enter Tryd.func32, Tryd.ntmps32
    go_wp2_with fail
    obtain ⟨W0, e0⟩ : ∃ W0, W0 = w.alloc (.cells #[.int .i64 x.f0, .int .i64 x.f1, .string x.f2, .slice A x.f3.length c, .int .u64 u] 33) := ⟨_, rfl⟩
    have b1 : W0.heap[w.heap.size]? = some (.cells #[.int .i64 x.f0, .int .i64 x.f1, .string x.f2, .slice A x.f3.length c, .int .u64 u] 33) := by rw [e0]; exact heap_alloc_new w _
    have HB : Aside0 (Below w.heap.size w W0) := by rw [e0]; exact ⟨below_alloc (Below.refl w.heap.size w) _⟩
    obtain ⟨c0, c1, c2, c3, c4, cs⟩ := five b1
    rw [← e0]
    clear b1 e0
    have HQ0 := Aside0.mk (below_drew (Below.refl W0.heap.size W0))
    go_wp2_with fail
    go_region_held3 (fun W => W.cell? ⟨w.heap.size, 0, none⟩ = some (.int .i64 x.f0) ∧ W.cell? ⟨w.heap.size, 1, none⟩ = some (.int .i64 x.f1) ∧ W.cell? ⟨w.heap.size, 2, none⟩ = some (.string x.f2) ∧ W.cell? ⟨w.heap.size, 4, none⟩ = some (.int .u64 u)) (first | exact ⟨pw_cell_below (‹Aside0 (Below W0.heap.size W0 _)›).out c0, pw_cell_below (‹Aside0 (Below W0.heap.size W0 _)›).out c1, pw_cell_below (‹Aside0 (Below W0.heap.size W0 _)›).out c2, pw_cell_below (‹Aside0 (Below W0.heap.size W0 _)›).out c4⟩ | exact ⟨pw_cell_below (below_alloc (‹Aside0 (Below W0.heap.size W0 _)›).out _) c0, pw_cell_below (below_alloc (‹Aside0 (Below W0.heap.size W0 _)›).out _) c1, pw_cell_below (below_alloc (‹Aside0 (Below W0.heap.size W0 _)›).out _) c2, pw_cell_below (below_alloc (‹Aside0 (Below W0.heap.size W0 _)›).out _) c4⟩) (first | (go_at_call 42; refine (itoa_calls _ (by have := HM.out; omega) (by have := HM.out; omega) _ (HT.out.below (HB.out.trans ((‹Aside0 (Below W0.heap.size W0 _)›).out.mono HB.out.size)))).mono ?_; (rintro e w' ⟨rfl, hb⟩); have HQ1 := Aside0.mk ((‹Aside0 (Below W0.heap.size W0 _)›).out.trans (hb.mono (‹Aside0 (Below W0.heap.size W0 _)›).out.size)); clear hb) | (go_at_call 44; refine (fmtU_calls u (by have := HU.out; have := HU2.out; omega) _ (HT.out.below (HB.out.trans ((‹Aside0 (Below W0.heap.size W0 _)›).out.mono HB.out.size)))).mono ?_; (rintro e w' ⟨rfl, hb⟩); have HQ1 := Aside0.mk ((‹Aside0 (Below W0.heap.size W0 _)›).out.trans (hb.mono (‹Aside0 (Below W0.heap.size W0 _)›).out.size)); clear hb) | (go_at_call 45; refine (join_calls _ _ [itoaB x.f0, itoaB x.f1, x.f2, ⟨#[46]⟩, utoaB u] 32 25000 _ (strs_lit _ [itoaB x.f0, itoaB x.f1, x.f2, ⟨#[46]⟩, utoaB u] (by simp)) (by simp) (by rw [← HI.out]; exact HL.out) (by simp)).mono ?_; (rintro e w' ⟨rfl, hb⟩); have HQ1 := Aside0.mk ((below_alloc (‹Aside0 (Below W0.heap.size W0 _)›).out _).trans (hb.mono (by have := (‹Aside0 (Below W0.heap.size W0 _)›).out.size; simp; omega))); clear hb))
    all_goals
      have HQ2 := Aside0.mk (HB.out.trans ((‹Aside0 (Below W0.heap.size W0 _)›).out.mono HB.out.size))
      go_wp2
      go_ret
      exact ⟨ret_str (by rw [HFin.out, HI.out]), HQ2.out⟩
end Go.Proofs.YtmbkmfdmpimegaaDoor
