/-
  The walks of slices.Clone, strconv.Itoa, strconv.FormatUint and Entry.may as this program calls them.
-/
import Derived.Test.YtmbkmfdmpimegaaDoorA1
import Derived.Lib.AppendIntMem
import Derived.Shelf.Unicode.PredsPay
namespace Go.Proofs.YtmbkmfdmpimegaaDoor
open Go.RowKit Go.Lib Go.Sort Go.Proofs.YtmbkmfdmpimegaaDoorW.PrintWords

/-- the table that the library's numerals are told by -/
def Tab (w : World) : Prop := Lib.TabIs Tryd.prog w "internal/strconv.uint64pow10" .u64 Lib.pow10Tab
theorem Tab.below {w w' : World} (h : Tab w) (hb : Below w.heap.size w w') : Tab w' := TabIs_below (g := 3) (by kernel_rfl) h hb

theorem strs_spot {w : World} {ad : Addr} {n : Nat} {ws : List ByteArray} (h : Kd.C Kd.string w (some ad) n ws) (hn : 0 < n) : ad.spot = none := by
  have hl := h.1
  obtain ⟨ad', e, hc⟩ := Kd.at_string h 0 (by omega) (by omega)
  obtain rfl : ad = ad' := by injection e
  have : (ad.add (0 : Int).toNat) = ad := by simp [Addr.add]
  rw [this] at hc
  unfold World.cell? at hc
  split at hc
  · split at hc
    · cases hc
    · rename_i hs; simpa using hs
  · cases hc

theorem strs_of_own {w : World} {base : Nat} {v : Value} {ws : List ByteArray} (h : w.ownsRow base 9 1 v ws.length (ws.map Value.string)) :
    ∃ A c, v = .slice A ws.length c ∧ ws.length ≤ c ∧ Kd.C Kd.string w A ws.length ws := by
  obtain ⟨A, c, he, hl, hr⟩ := own_reads_of_le (enc := Value.string) (d := ByteArray.empty) h
  exact ⟨A, c, he, hl, Kd.C_of_reads hr⟩

theorem clone_calls (A : Option Addr) (c : Nat) (ws : List ByteArray) (w : World) (hr : Kd.C Kd.string w A ws.length ws) (hbig : ws.length * 16 ≤ 140737488355328) :
    Calls Tryd.prog 25 #[.slice A ws.length c] w fun e w' => ∃ A' c', e = .returned (.slice A' ws.length c') ∧ ws.length ≤ c' ∧ Kd.C Kd.string w' A' ws.length ws ∧ Below w.heap.size w w' := by
  cases A with
  | none =>
    have h0 : ws = [] := by
      cases ws with
      | nil => rfl
      | cons a l =>
        obtain ⟨ad, e, _⟩ := hr.2.2 (by simp)
        cases e
    subst h0
    refine (Tryd.slices_Clone_string_nil 0 c w).mono ?_
    rintro e w' ⟨rfl, rfl⟩
    exact ⟨none, 0, rfl, Nat.zero_le _, Kd.C_nil _ _, Below.refl _ _⟩
  | some ad =>
    by_cases hn : ws.length = 0
    · obtain rfl : ws = [] := List.length_eq_zero_iff.1 hn
      refine (Tryd.slices_Clone_string_zero ad c w).mono ?_
      rintro e w' ⟨v', rfl, hown, _, hb⟩
      obtain ⟨A', c', rfl, hl, hC⟩ := strs_of_own (ws := []) hown
      exact ⟨A', c', rfl, hl, hC, hb⟩
    · have hs := strs_spot hr (by omega)
      obtain ⟨b, off, sp⟩ := ad
      obtain rfl : sp = none := hs
      refine (Tryd.slices_Clone_string b off ws.length c ws w (Nat.le_refl _) hbig ?_).mono ?_
      · intro j hj
        obtain ⟨ad, e, hc⟩ := strs_get hr j hj
        obtain rfl : (⟨b, off, none⟩ : Addr) = ad := by injection e
        rw [Lib.add_plain] at hc
        rw [hc, List.getD_eq_getElem?_getD, List.getElem?_eq_getElem hj]; rfl
      · rintro e w' ⟨v', rfl, hown, _, hb⟩
        rw [List.take_length] at hown
        obtain ⟨A', c', rfl, hl, hC⟩ := strs_of_own hown
        exact ⟨A', c', rfl, hl, hC, hb⟩

def itoaB (n : Int) : ByteArray := ⟨(Lib.itoa n).toArray⟩
theorem itoa_calls (n : Int) (h0 : -9223372036854775808 ≤ n) (h1 : n ≤ 9223372036854775807) (w : World) (ht : Tab w) :
    Calls Tryd.prog 42 #[.int .i64 n] w fun e w' => e = .returned (.string (itoaB n)) ∧ Below w.heap.size w w' := by
  refine (Tryd.strconv_Itoa n h0 h1 w ht).mono ?_
  rintro e w' ⟨rfl, k, os, rfl⟩
  exact ⟨rfl, Lib.below_grow _ w (Nat.le_refl _) k os⟩

/-- a number of 64 bits, by digits -/
def utoaB (u : Nat) : ByteArray := ⟨(Lib.decDigits u).toArray⟩
set_option maxRecDepth 100000 in
theorem fmtU_in (u : Nat) (hu64 : u < 18446744073709551616) (w : World) (ht : Tab w) :
    Calls Tryd.prog 58 #[.int .u64 u, .int .i64 10] w fun e w' => e = .returned (.string (utoaB u)) ∧ Below w.heap.size w w' := by
  by_cases hs : u < 100
  · have hw : IntKind.i64.wrap (u : Int) = u := by rw [IntKind.wrap_i64]; omega
    have HW := Aside0.mk hw
    clear hw
    go_enter Tryd.func58, Tryd.ntmps58
    go_wp2_with (go_at_call 74; refine (Tryd.internal_strconv_small u hs _).mono ?_; rintro e w' ⟨rfl, rfl⟩)
    go_ret
    exact ⟨rfl, Below.refl _ _⟩
  · have hu1 : 1 ≤ u := by omega
    have hnd20 : Lib.nDigits u ≤ 20 := by have := Lib.numDigits_eq u hu1 hu64; split at this <;> omega
    have hal : Tryd.prog.arrayLen 100 = 24 := by kernel_rfl
    have hsl1 : ∀ W, (Instr.sliceAt 100 (.pointer (some ⟨w.heap.size, 0, none⟩)) none (some (.int .i64 (Lib.nDigits u : Int))) none).run Tryd.prog W = .ok (.slice (some ⟨w.heap.size, 0, none⟩) (Lib.nDigits u) 24) W := fun W => by
      rw [run_sliceAt_array_h W 100 ⟨w.heap.size, 0, none⟩ (by kernel_rfl) .i64 (Lib.nDigits u : Int) (by omega) (by rw [hal]; omega)]
      go_simp
    have hH0 := Lib.holds_zero0 w 100 (Lib.nDigits u) (by omega)
    have hfmt := Tryd.internal_strconv_formatBase10 w.heap.size 0 24 u (Array.replicate (Lib.nDigits u) 0) (w.alloc (.cells Lib.zeros24 100)) hH0 (by rw [Array.size_replicate]; exact Lib.lt_pow_nDigits u) hu64 (by rw [Array.size_replicate]; omega)
    rw [Array.size_replicate] at hfmt
    have HH0 := Lib.hid hH0
    clear hH0 hal
    go_enter Tryd.func58, Tryd.ntmps58
    go_wp2_with (first
      | (go_at_call 75; refine (Tryd.internal_strconv_numDigits u hu1 hu64 _ (Lib.tabIs_alloc ht _)).mono ?_; rintro e w' ⟨rfl, rfl⟩))
    refine hfmt.mono ?_
    rintro e w' ⟨rfl, k, v', dk, rfl, hF⟩
    have hcv : (convert 39 9 (.slice (some ⟨w.heap.size, 0, none⟩) (Lib.nDigits u) 24)).run Tryd.prog ((putRow (fun (b : UInt8) => Value.int .u8 (b.toNat : Int)) (w.alloc (.cells Lib.zeros24 100)) w.heap.size 0 dk).drewN k) = .ok (.string ⟨(Lib.decDigits u).toArray⟩) ((putRow (fun (b : UInt8) => Value.int .u8 (b.toNat : Int)) (w.alloc (.cells Lib.zeros24 100)) w.heap.size 0 dk).drewN k) := by
      have h := run_convert_bytes_back (P := Tryd.prog) ((putRow (fun (b : UInt8) => Value.int .u8 (b.toNat : Int)) (w.alloc (.cells Lib.zeros24 100)) w.heap.size 0 dk).drewN k) 39 9 5 ⟨w.heap.size, 0, none⟩ 24 (Lib.decDigits u) Tryd.underlying39 Tryd.underlying5 Tryd.underlying9 (fun j hj => by
        rw [Lib.row_is_numeral hF j hj, Lib.add_plain, World.cell?_drewN]
        exact cell?_putRow (fun (b : UInt8) => Value.int .u8 (b.toNat : Int)) _ w.heap.size 0 _ dk HH0.out (by rw [hF.size, Array.size_replicate]) j (by rw [hF.size]; rw [Lib.decDigits_length] at hj; exact hj))
      rw [Lib.decDigits_length] at h
      exact h
    go_wp2
    go_ret
    obtain ⟨os, eo⟩ := Lib.fin_at w (.cells Lib.zeros24 100) dk k 0
    exact ⟨rfl, by rw [eo]; exact Lib.below_grow _ w (Nat.le_refl _) k os⟩
theorem fmtU_calls (u : Nat) (hu64 : u < 18446744073709551616) (w : World) (ht : Tab w) :
    Calls Tryd.prog 44 #[.int .u64 u, .int .i64 10] w fun e w' => e = .returned (.string (utoaB u)) ∧ Below w.heap.size w w' := by
  go_enter Tryd.func44, Tryd.ntmps44
  go_wp2_with (go_at_call 58; refine (fmtU_in u hu64 _ ht).mono ?_; rintro e w' ⟨rfl, hb⟩)
  go_ret
  exact ⟨rfl, hb⟩

theorem ret_bool {a b : Bool} (h : a = b) : Ending.returned (.bool a) = .returned (.bool b) := by rw [h]
theorem bcell {W w1 : World} (hb : Below W.heap.size W w1) : (∀ b o, b < W.heap.size → w1.cell? ⟨b, o, none⟩ = W.cell? ⟨b, o, none⟩) ∧ (∀ b o, b < W.heap.size → w1.frozen? ⟨b, o, none⟩ = W.frozen? ⟨b, o, none⟩) :=
  ⟨fun b o h => hb.cell (p := ⟨b, o, none⟩) h, fun b o h => hb.frozen (p := ⟨b, o, none⟩) h⟩
/-- may an entry be? -/
def mayE (o n : Int) (p : ByteArray) (is : List ByteArray) : Bool :=
  decide (0 ≤ o) && decide (o ≤ 1048576) && decide (0 ≤ n) && decide (n ≤ 1099511627776) && nameB p && decide (is.length ≤ 1000) && is.all nameB

theorem may1_calls (s : ByteArray) (w : World) :
    Calls Tryd.prog 40 #[.string s] w fun e w' => e = .returned (.bool (!nameB s)) ∧ Below w.heap.size w w' := by
  go_enter Tryd.func40, Tryd.ntmps40
  go_wp2_with (go_at_call 38; refine (name_calls _ _).mono ?_; rintro e w' ⟨rfl, hb⟩)
  go_ret
  exact ⟨rfl, hb⟩

/-- the place of the first that is no name -/
def badIdx : List ByteArray → Nat → Int
  | [], _ => -1
  | s :: l, k => if nameB s = true then badIdx l (k + 1) else (k : Int)
theorem badIdx_all : ∀ (l : List ByteArray) (k : Nat), decide (0 ≤ badIdx l k) = !l.all nameB
  | [], k => by simp [badIdx]
  | s :: l, k => by
    unfold badIdx
    by_cases h : nameB s = true
    · rw [if_pos h, badIdx_all l (k + 1)]; simp [h]
    · rw [if_neg h]
      have h' : nameB s = false := by simpa using h
      simp [h']
theorem badIdx_drop (ws : List ByteArray) (k : Nat) (hk : k < ws.length) : badIdx (ws.drop k) k = if nameB ws[k] = true then badIdx (ws.drop (k + 1)) (k + 1) else (k : Int) := by
  rw [List.drop_eq_getElem_cons hk]; rfl

set_option maxRecDepth 100000 in
theorem idx_calls (A : Option Addr) (c : Nat) (ws : List ByteArray) (w : World) (hr : Kd.C Kd.string w A ws.length ws) :
    Calls Tryd.prog 55 #[.slice A ws.length c, .func (.func 40) #[] #[]] w fun e w' => e = .returned (.int .i64 (badIdx ws 0)) ∧ Below w.heap.size w w' := by
  have HR := Aside0.mk hr
  have hn := hr.2.1
  clear hr
  go_enter Tryd.func55, Tryd.ntmps55
  go_wp2
  go_loopw [8] (fun i wr => ∃ k : Nat, i = .int .i64 k ∧ k ≤ ws.length ∧ Aside0 (badIdx (ws.drop k) k = badIdx ws 0) ∧ Aside0 (Below w.heap.size w wr)) (fun i _ => ws.length - (intOf i).toNat)
  case atStart => exact ⟨0, rfl, Nat.zero_le _, ⟨rfl⟩, ⟨Below.refl _ _⟩⟩
  case round =>
    obtain ⟨k, rfl, hk, HF, HB⟩ := hrel
    by_cases hlt : k < ws.length
    · obtain ⟨ad, rfl, hx⟩ := strs_get (Kd.C_below HR.out HB.out) k hlt
      have HD := Aside0.mk (badIdx_drop ws k hlt)
      cases hnm : nameB ws[k] with
      | true =>
        have HN := Aside0.mk hnm
        clear hnm
        go_wp2_with fail
        refine (may1_calls _ _).mono ?_
        rintro e w1 ⟨rfl, hb1⟩
        have HB1 := Aside0.mk (HB.out.trans (hb1.mono HB.out.size))
        clear hb1 HB
        rw [HN.out]
        go_wp2
        go_roundw
        case rel => exact ⟨k + 1, by go_num, by omega, ⟨by rw [← HF.out, HD.out, if_pos HN.out]⟩, HB1⟩
        case measure => simp [intOf]; omega
      | false =>
        have HN := Aside0.mk hnm
        clear hnm
        go_wp2_with fail
        refine (may1_calls _ _).mono ?_
        rintro e w1 ⟨rfl, hb1⟩
        have HB1 := Aside0.mk (HB.out.trans (hb1.mono HB.out.size))
        clear hb1 HB
        rw [HN.out]
        go_wp2
        go_ret
        exact ⟨ret_int (by rw [← HF.out, HD.out, if_neg (by rw [HN.out]; simp)]), HB1.out⟩
    · have hend := Aside0.mk (HF.out.symm.trans (by rw [List.drop_of_length_le (by omega)]; rfl : _ = -1))
      go_wp2
      go_ret
      exact ⟨ret_int hend.out.symm, HB.out⟩

theorem contains_calls (A : Option Addr) (c : Nat) (ws : List ByteArray) (w : World) (hr : Kd.C Kd.string w A ws.length ws) :
    Calls Tryd.prog 39 #[.slice A ws.length c, .func (.func 40) #[] #[]] w fun e w' => e = .returned (.bool (!ws.all nameB)) ∧ Below w.heap.size w w' := by
  have HR := Aside0.mk hr
  clear hr
  go_enter Tryd.func39, Tryd.ntmps39
  go_wp2_with (go_at_call 55; refine (idx_calls _ _ _ _ HR.out).mono ?_; rintro e w' ⟨rfl, hb⟩)
  go_ret
  exact ⟨by rw [← badIdx_all ws 0]; rfl, hb⟩

set_option maxHeartbeats 1000000 in
theorem mayE_calls (o n : Int) (p : ByteArray) (A : Option Addr) (c : Nat) (is : List ByteArray) (s : Int) (w : World) (hr : Kd.C Kd.string w A is.length is) :
    Calls Tryd.prog 26 #[.agg #[.int .i64 o, .int .i64 n, .string p, .slice A is.length c, .int .u64 s]] w fun e w' => e = .returned (.bool (mayE o n p is)) ∧ Below w.heap.size w w' := by
  have HR := Aside0.mk hr
  have hn := hr.2.1
  clear hr
  cases hp : nameB p
  all_goals
    have HP := Aside0.mk hp
    clear hp
    rcases (show o < 0 ∨ (0 ≤ o ∧ 1048576 < o) ∨ (0 ≤ o ∧ o ≤ 1048576 ∧ n < 0) ∨ (0 ≤ o ∧ o ≤ 1048576 ∧ 0 ≤ n ∧ 1099511627776 < n) ∨ (0 ≤ o ∧ o ≤ 1048576 ∧ 0 ≤ n ∧ n ≤ 1099511627776 ∧ 1000 < is.length) ∨ (0 ≤ o ∧ o ≤ 1048576 ∧ 0 ≤ n ∧ n ≤ 1099511627776 ∧ is.length ≤ 1000) by omega) with h1 | ⟨h1, h2⟩ | ⟨h1, h2, h3⟩ | ⟨h1, h2, h3, h4⟩ | ⟨h1, h2, h3, h4, h5⟩ | ⟨h1, h2, h3, h4, h5⟩
  all_goals
    go_enter Tryd.func26, Tryd.ntmps26
    go_wp2_with fail
  all_goals first
    | (go_ret
       exact ⟨ret_bool (by simp [mayE]; omega), below_alloc (Below.refl _ _) _⟩)
    | (refine (name_calls _ _).mono ?_
       rintro e w1 ⟨rfl, hb⟩
       rw [HP.out]
       obtain ⟨hc, hf⟩ := bcell hb
       have HB := Aside0.mk ((below_alloc (Below.refl w.heap.size w) _).trans (hb.mono (by simp)))
       clear hb
       go_wp2_with fail
       first
         | (go_ret
            exact ⟨ret_bool (by simp [mayE, HP.out]; try omega), HB.out⟩)
         | (refine (contains_calls _ _ _ _ (Kd.C_below HR.out HB.out)).mono ?_
            rintro e w2 ⟨rfl, hb2⟩
            have HB2 := Aside0.mk (HB.out.trans (hb2.mono HB.out.size))
            clear hb2
            go_wp2
            go_ret
            exact ⟨ret_bool (by simp [mayE, HP.out]; try omega), HB2.out⟩))
end Go.Proofs.YtmbkmfdmpimegaaDoor
