/-
  The walks of event.Name and draw.Hash: what they hand back, and that no memory that was there is changed.
-/
import Derived.Test.YtmbkmfdmpimegaaDoorPRx0
import Derived.Test.YtmbkmfdmpimegaaDoorShelf
namespace Go.Proofs.YtmbkmfdmpimegaaDoor
open Go.RowKit Go.Lib Go.Proofs.YtmbkmfdmpimegaaDoorW.PrintWords

/-- a rune that stands in no name -/
def oddR (r : Nat) : Bool := !(decide (97 ≤ r) && decide (r ≤ 122) || decide (48 ≤ r) && decide (r ≤ 57) || decide (r = 45))
def okC (c : UInt8) : Bool := !oddR c.toNat
def nameB (s : ByteArray) : Bool := decide (1 ≤ s.size) && decide (s.size ≤ 24) && s.data.toList.all okC

theorem decodeN_big (n b0 b1 b2 b3 : Nat) (h : 128 ≤ b0) : 128 ≤ (decodeN n b0 b1 b2 b3).1 := by
  unfold decodeN
  rw [if_neg (by omega)]
  repeat' split
  all_goals (simp; try omega)
theorem oddR_big {r : Nat} (h : 128 ≤ r) : oddR r = true := by
  unfold oddR
  simp; omega
theorem byte_get (s : ByteArray) (i : Nat) (h : i < s.size) : s.get! i = s[i] := by
  show s.data[i]! = s.data[i]
  rw [getElem!_pos s.data i h]
theorem idx_from_bad (s : ByteArray) : ∀ (f pos : Nat), s.size ≤ pos + f → (0 ≤ idxFuncFrom oddR true s f pos ↔ (s.data.toList.drop pos).any (fun c => !okC c) = true)
  | 0, pos, h => by
    rw [List.drop_of_length_le (by simpa using h)]
    simp [idxFuncFrom]
  | f + 1, pos, h => by
    unfold idxFuncFrom
    by_cases hp : pos < s.size
    · rw [if_pos hp, List.drop_eq_getElem_cons (by simpa using hp), List.any_cons]
      have hg : (s.data.toList[pos]'(by simpa using hp)) = s[pos] := rfl
      rw [hg]
      by_cases h8 : s[pos].toNat < 128
      · have hd : Utf8.decode s pos = (s[pos].toNat, 1) := by rw [decode_at, byte_get s pos hp]; exact by simp [decodeN, h8]
        rw [hd]
        by_cases ho : oddR s[pos].toNat = true
        · rw [if_pos ho]; simp [okC, ho]
        · rw [if_neg ho]
          have := idx_from_bad s f (pos + 1) (by omega)
          rw [this]
          have ho' : oddR s[pos].toNat = false := by simpa using ho
          simp [okC, ho']
      · have hd : 128 ≤ (Utf8.decode s pos).1 := by rw [decode_at, byte_get s pos hp]; exact decodeN_big _ _ _ _ _ (by omega)
        rw [if_pos (oddR_big hd)]
        simp [okC, oddR_big (show 128 ≤ s[pos].toNat by omega)]
    · rw [if_neg hp, List.drop_of_length_le (by simpa using hp)]
      simp
theorem idx_odd (s : ByteArray) : decide (0 ≤ idxFunc oddR true s) = !s.data.toList.all okC := by
  unfold idxFunc
  have := idx_from_bad s s.size 0 (by omega)
  rw [List.drop_zero] at this
  rw [Bool.eq_iff_iff, decide_eq_true_iff, this, List.not_all_eq_any_not]

theorem odd_at (w : World) : PredAt Tryd.prog 53 #[] encR oddR w := fun W r _ => by
  unfold FnGives
  have z1 : (97 : Int) ≤ (r : Int) ↔ 97 ≤ r := by omega
  have z2 : (r : Int) ≤ 122 ↔ r ≤ 122 := by omega
  have z3 : (48 : Int) ≤ (r : Int) ↔ 48 ≤ r := by omega
  have z4 : (r : Int) ≤ 57 ↔ r ≤ 57 := by omega
  have z5 : ((r : Int) == 45) = decide (r = 45) := by rw [Bool.eq_iff_iff]; simp; omega
  have Z5 := Aside0.mk z5
  clear z5
  by_cases h1 : 97 ≤ r <;> by_cases h2 : r ≤ 122 <;> by_cases h3 : 48 ≤ r <;> by_cases h4 : r ≤ 57
  all_goals first
    | (exfalso; omega)
    | (go_enter Tryd.func53, Tryd.ntmps53
       go_wp2
       go_ret
       exact ⟨by simp [oddR, h1, h2, h3, h4, Z5.out], 0, rfl⟩)


theorem strings_ContainsFunc_odd (s : ByteArray) (w : World) :
    Calls Tryd.prog 54 #[.string s, .func (.func 53) #[] #[]] w fun e w' => e = .returned (.bool (!s.data.toList.all okC)) ∧ Below w.heap.size w w' := by
  have hC := Tryd.strings_ContainsFunc 53 #[] (enters_of Tryd.func53 (by kernel_rfl) rfl) _ s w (odd_at w)
  rw [idx_odd] at hC
  exact hC

theorem name_calls (s : ByteArray) (w : World) :
    Calls Tryd.prog 38 #[.string s] w fun e w' => e = .returned (.bool (nameB s)) ∧ Below w.heap.size w w' := by
  by_cases h1 : 1 ≤ s.size
  · by_cases h2 : s.size ≤ 24
    · go_enter Tryd.func38, Tryd.ntmps38
      go_wp2_with (go_at_call 54; refine (strings_ContainsFunc_odd _ _).mono ?_; rintro e w' ⟨rfl, hb⟩)
      go_ret
      exact ⟨by simp [nameB, h1, h2], hb⟩
    · go_enter Tryd.func38, Tryd.ntmps38
      go_wp2
      go_ret
      exact ⟨by simp [nameB, h1, h2], Below.refl _ _⟩
  · go_enter Tryd.func38, Tryd.ntmps38
    go_wp2
    go_ret
    exact ⟨by simp [nameB, h1], Below.refl _ _⟩
/-- one byte more in the hash -/
def hstep (h b : Int) : Int := IntKind.u64.wrap ((Go.bits .xor .u64 h b) * 1099511628211)
/-- a word's bytes -/
def hbytes (h : Int) (l : List UInt8) : Int := l.foldl (fun h b => hstep h (b.toNat : Int)) h
/-- a word more -/
def hword (h : Int) (s : ByteArray) : Int := hstep (hbytes h s.data.toList) 256
def hwords (h : Int) (ws : List ByteArray) : Int := ws.foldl hword h
def hmix1 (h : Int) : Int := IntKind.u64.wrap (Go.bits .xor .u64 h (h / 2147483648) * 9202087104158670213)
def hmix2 (h : Int) : Int := IntKind.u64.wrap (Go.bits .xor .u64 h (h / 134217728) * 9356908073163150413)
def hmix3 (h : Int) : Int := Go.bits .xor .u64 h (h / 8589934592)
def hashI (seed : Int) (ws : List ByteArray) : Int := hmix3 (hmix2 (hmix1 (hwords (IntKind.u64.wrap (seed + 11400714819323198485)) ws)))

theorem hash1_calls (b h : Int) (B : Nat) (w : World) (hc : w.heap[B]? = some (.cells #[.int .u64 h] 22 (0, 0))) :
    Calls Tryd.prog 57 #[.int .u64 b, .pointer (some ⟨B, 0, none⟩)] w fun e w' => e = .returned (.tuple #[]) ∧ w'.heap[B]? = some (.cells #[.int .u64 (hstep h b)] 22 (0, 0)) ∧ ∀ N, N ≤ B → Below N w w' := by
  have c1 := cell_of_one hc
  have f1 := free_of_one hc
  go_enter Tryd.func57, Tryd.ntmps57
  go_wp2
  go_end0
  exact ⟨rfl, one_setCell hc, fun N hN => (Below.refl N w).setCell hN _⟩

theorem u64_byte (b : UInt8) : IntKind.u64.wrap (b.toNat : Int) = (b.toNat : Int) := by
  have := b.toNat_lt
  rw [IntKind.wrap_u64]
  omega
theorem ret_int {k : IntKind} {a b : Int} (h : a = b) : Ending.returned (.int k a) = .returned (.int k b) := by rw [h]
theorem strs_get {w : World} {A : Option Addr} {ws : List ByteArray} (h : Kd.C Kd.string w A ws.length ws) (k : Nat) (hk : k < ws.length) : ∃ ad, A = some ad ∧ w.cell? (ad.add k) = some (.string ws[k]) := by
  obtain ⟨ad, e, hc⟩ := Kd.at_string h (k : Int) (by omega) (by omega)
  refine ⟨ad, e, ?_⟩
  simpa [rdOf, List.getD, hk] using hc
theorem hwords_drop (h : Int) (ws : List ByteArray) (k : Nat) (hk : k < ws.length) : hwords h (ws.drop k) = hwords (hword h ws[k]) (ws.drop (k + 1)) := by
  rw [List.drop_eq_getElem_cons hk]; rfl
theorem hbytes_drop (h : Int) (s : ByteArray) (k : Nat) (hk : k < s.size) : hbytes h (s.data.toList.drop k) = hbytes (hstep h (s[k].toNat : Int)) (s.data.toList.drop (k + 1)) := by
  rw [List.drop_eq_getElem_cons (by simpa using hk)]; rfl
theorem hbytes_end (h : Int) (s : ByteArray) (k : Nat) (hk : ¬ k < s.size) : hbytes h (s.data.toList.drop k) = h := by
  rw [List.drop_of_length_le (by simpa using hk)]; rfl

set_option maxRecDepth 100000 in
set_option maxHeartbeats 400000 in
theorem hash_calls (seed : Int) (A : Option Addr) (c : Nat) (ws : List ByteArray) (w : World) (hr : Kd.C Kd.string w A ws.length ws) (hsz : ∀ s ∈ ws, s.size ≤ 9223372036854775807) :
    Calls Tryd.prog 43 #[.int .u64 seed, .slice A ws.length c] w fun e w' => e = .returned (.int .u64 (hashI seed ws)) ∧ Below w.heap.size w w' := by
  have HR := Aside0.mk hr
  have hn := hr.2.1
  have HS := Aside0.mk hsz
  clear hr hsz
  go_enter Tryd.func43, Tryd.ntmps43
  go_wp2
  go_loopw [15] (fun i wr => ∃ (k : Nat) (h : Int), i = .int .i64 k ∧ k ≤ ws.length ∧ Aside0 (wr.heap[w.heap.size]? = some (.cells #[.int .u64 h] 22 (0, 0))) ∧ Aside0 (hwords h (ws.drop k) = hwords (IntKind.u64.wrap (seed + 11400714819323198485)) ws) ∧ Aside0 (Below w.heap.size w wr)) (fun i _ => ws.length - (intOf i).toNat)
  case atStart => exact ⟨0, _, rfl, Nat.zero_le _, ⟨heap_alloc_new _ _⟩, ⟨rfl⟩, ⟨below_alloc (Below.refl _ _) _⟩⟩
  case round =>
    obtain ⟨k, h, rfl, hk, hb, HF, HB⟩ := hrel
    by_cases hlt : k < ws.length
    · obtain ⟨ad, rfl, hx⟩ := strs_get (Kd.C_below HR.out HB.out) k hlt
      have hs := HS.out ws[k] (List.getElem_mem hlt)
      obtain ⟨s, es⟩ : ∃ s, s = ws[k] := ⟨_, rfl⟩
      rw [← es] at hx hs
      have ES := Aside0.mk es
      clear es
      go_wp2
      obtain ⟨wo, rfl⟩ : ∃ wo : World, wo = wr := ⟨_, rfl⟩
      go_loopw [21] (fun i wr => ∃ (j : Nat) (h' : Int), i = .int .i64 j ∧ j ≤ s.size ∧ Aside0 (wr.heap[w.heap.size]? = some (.cells #[.int .u64 h'] 22 (0, 0))) ∧ Aside0 (hbytes h' (s.data.toList.drop j) = hbytes h s.data.toList) ∧ Aside0 (Below w.heap.size w wr)) (fun i _ => s.size - (intOf i).toNat)
      case atStart => exact ⟨0, h, rfl, Nat.zero_le _, hb, ⟨rfl⟩, HB⟩
      case round =>
        obtain ⟨j, h', rfl, hj, hb', HF', HB'⟩ := hrel
        by_cases hlt2 : j < s.size
        · go_wp2_with fail
          refine (hash1_calls _ _ w.heap.size _ hb'.out).mono ?_
          rintro e w1 ⟨rfl, h1, h2⟩
          have HB1 := Aside0.mk (HB'.out.trans (h2 w.heap.size (Nat.le_refl _)))
          have h1 := Aside0.mk h1
          clear h2 hb' HB'
          go_wp2
          go_roundw
          case rel => exact ⟨j + 1, _, by go_num, by omega, h1, ⟨by rw [← HF'.out, hbytes_drop _ _ _ hlt2, u64_byte]⟩, HB1⟩
          case measure => simp [intOf]; omega
        · have hend := Aside0.mk (HF'.out.symm.trans (hbytes_end h' s j hlt2))
          go_wp2_with fail
          refine (hash1_calls _ _ w.heap.size _ hb'.out).mono ?_
          rintro e w1 ⟨rfl, h1, h2⟩
          have HB1 := Aside0.mk (HB'.out.trans (h2 w.heap.size (Nat.le_refl _)))
          have h1 := Aside0.mk h1
          clear h2 hb' HB'
          go_wp2
          go_roundw
          case rel => exact ⟨k + 1, _, by go_num, by omega, h1, ⟨by rw [← HF.out, hwords_drop _ _ _ hlt, hword, ← ES.out, hend.out]⟩, HB1⟩
          case measure => simp [intOf]; omega
    · have hend := Aside0.mk (HF.out.symm.trans (by rw [List.drop_of_length_le (by omega)]; rfl : _ = h))
      have c1 := cell_of_one hb.out
      have f1 := free_of_one hb.out
      clear hb
      go_wp2
      go_ret
      exact ⟨ret_int (by unfold hashI; rw [hend.out]; rfl), (HB.out.setCell (by exact Nat.le_refl _) _).setCell (by exact Nat.le_refl _) _⟩
end Go.Proofs.YtmbkmfdmpimegaaDoor
