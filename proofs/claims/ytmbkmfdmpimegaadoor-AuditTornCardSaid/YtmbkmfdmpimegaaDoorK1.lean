/-
  Frames: what a call leaves as it was. No program is in sight. The walks of event.Name and draw.Hash: what they hand back, and that no memory that was there is changed. The walks of slices.Clone, strconv.Itoa, strconv.FormatUint and Entry.may as this program calls them. The walks of Entry.sum and of the chain's methods. The chain in memory; the walks of Entry.clone, Chain.last and Chain.Add.
-/
import Derived.Test.YtmbkmfdmpimegaaDoorWKept
import Derived.Test.YtmbkmfdmpimegaaDoorPRx0
import Derived.Test.YtmbkmfdmpimegaaDoorShelf
import Derived.Lib.AppendIntMem
import Derived.Shelf.Unicode.PredsPay
import Derived.Lib.ItoaLen
namespace Go.Proofs.YtmbkmfdmpimegaaDoor
open Go.RowKit Go.Proofs.YtmbkmfdmpimegaaDoorW.PrintWords

/-- all that lay in w lies in W as it did, but the blocks of S -/
structure Fr (S : Nat → Prop) (w W : World) : Prop where
  os : W.os = w.os
  tape : W.tape = w.tape
  output : W.output = w.output
  size : w.heap.size ≤ W.heap.size
  block : ∀ i, i < w.heap.size → ¬ S i → W.heap[i]? = w.heap[i]?
namespace Fr
variable {w W W2 : World} {S S2 : Nat → Prop}
theorem refl (S : Nat → Prop) (w : World) : Fr S w w := ⟨rfl, rfl, rfl, Nat.le_refl _, fun _ _ _ => rfl⟩
theorem of_below (h : Below w.heap.size w W) (S : Nat → Prop) : Fr S w W := ⟨h.os, h.tape, h.output, h.size, fun i hi _ => h.block i hi⟩
theorem mono (h : Fr S w W) (hs : ∀ k, k < w.heap.size → S k → S2 k) : Fr S2 w W := ⟨h.os, h.tape, h.output, h.size, fun i hi hn => h.block i hi (fun hk => hn (hs i hi hk))⟩
theorem then_ (h : Fr S w W) (k : Fr S2 W W2) (hs : ∀ i, S2 i → S i ∨ w.heap.size ≤ i) : Fr S w W2 :=
  ⟨k.os.trans h.os, k.tape.trans h.tape, k.output.trans h.output, Nat.le_trans h.size k.size,
   fun i hi hn => (k.block i (Nat.lt_of_lt_of_le hi h.size) (fun h2 => (hs i h2).elim hn (fun h3 => by omega))).trans (h.block i hi hn)⟩
theorem below (h : Fr S w W) (k : Below W.heap.size W W2) : Fr S w W2 := h.then_ (of_below k (fun _ => False)) (fun _ hk => hk.elim)
theorem alloc (h : Fr S w W) (o : Obj) : Fr S w (W.alloc o) := h.below (below_alloc (Below.refl _ _) o)
theorem drew (h : Fr S w W) : Fr S w W.drew := h.below (below_drew (Below.refl _ _))
theorem drewN (h : Fr S w W) (n : Nat) : Fr S w (W.drewN n) := h.below (pw_below_drewN (Below.refl _ _) n)
theorem grown {row : Option Nat} (h : Fr S w W) (hg : W.grownBy W2 row) (hr : ∀ k, row = some k → S k ∨ w.heap.size ≤ k) : Fr S w W2 :=
  h.then_ (S2 := fun k => row = some k) ⟨hg.os, hg.tape, hg.output, hg.size, fun i hi hn => hg.block i hi (fun he => hn he.symm)⟩ hr
theorem setCell (h : Fr S w W) {p : Addr} (hp : S p.block ∨ w.heap.size ≤ p.block) (u : Value) : Fr S w (W.setCell p u) := by
  have hb : Below 0 W (W.setCell p u) := (Below.refl 0 W).setCell (Nat.zero_le _) u
  exact h.then_ (S2 := fun k => k = p.block) ⟨hb.os, hb.tape, hb.output, hb.size, fun i _ hn => Below.heap_setCell W p u i hn⟩ (fun k hk => by rw [hk]; exact hp)
theorem toBelow (h : Fr S w W) {B : Nat} (hB : B ≤ w.heap.size) (hs : ∀ k, S k → B ≤ k) : Below B w W :=
  ⟨h.os, h.tape, h.output, h.size, fun i hi => h.block i (by omega) (fun hk => by have := hs i hk; omega)⟩
theorem kept (h : Fr S w W) : Kept w W S := ⟨h.size, h.block⟩
theorem blk (h : Fr S w W) {g : Nat} {o : Obj} (hb : w.heap[g]? = some o) (hne : ¬ S g) : W.heap[g]? = some o := (h.block g (blk_lt hb) hne).trans hb
theorem cell (h : Fr S w W) {a : Addr} {v : Value} (hc : w.cell? a = some v) (hne : ¬ S a.block) : W.cell? a = some v := cell_kept hc h.kept hne
end Fr
theorem new_at (w : World) (o : Obj) {n : Nat} (h : n = w.heap.size) : (w.alloc o).heap[n]? = some o := by rw [h]; exact heap_alloc_new w o
theorem new_1of2 (w : World) (o1 o2 : Obj) : ((w.alloc o1).alloc o2).heap[w.heap.size]? = some o1 := blk_alloc (heap_alloc_new w o1) o2
theorem new_2of2 (w : World) (o1 o2 : Obj) : ((w.alloc o1).alloc o2).heap[w.heap.size + 1]? = some o2 := new_at _ _ (by simp)
theorem five {W : World} {g : Nat} {a b c d e : Value} {t : TypeId} (h : W.heap[g]? = some (.cells #[a, b, c, d, e] t (0, 0))) :
    W.cell? ⟨g, 0, none⟩ = some a ∧ W.cell? ⟨g, 1, none⟩ = some b ∧ W.cell? ⟨g, 2, none⟩ = some c ∧ W.cell? ⟨g, 3, none⟩ = some d ∧ W.cell? ⟨g, 4, none⟩ = some e ∧ g < W.heap.size :=
  ⟨blk_cell h 0, blk_cell h 1, blk_cell h 2, blk_cell h 3, blk_cell h 4, blk_lt h⟩
theorem two {W : World} {g : Nat} {a b : Value} {t : TypeId} (h : W.heap[g]? = some (.cells #[a, b] t (0, 0))) :
    W.cell? ⟨g, 0, none⟩ = some a ∧ W.cell? ⟨g, 1, none⟩ = some b ∧ g < W.heap.size :=
  ⟨blk_cell h 0, blk_cell h 1, blk_lt h⟩
theorem R_fr {α : Type} {d : Kd α} {e base : Nat} {W W2 : World} {ok S : Nat → Prop} {v : Value} {xs : List α} (h : d.R e W base ok v xs) (hf : Fr S W W2) (hs : ∀ k, base ≤ k → k < W.heap.size → ok k → ¬ S k) : d.R e W2 base ok v xs :=
  Kd.R_mono (Kd.R_kept (Kd.R_bound h) hf.kept (fun k hk => hs k hk.2.1 hk.2.2.1 hk.1)) (fun _ hk => hk.1)
/-- five cells are written -/
abbrev set5 (w : World) (b : Nat) (a0 a1 a2 a3 a4 : Value) : World := ((((w.setCell ⟨b, 0, none⟩ a0).setCell ⟨b, 1, none⟩ a1).setCell ⟨b, 2, none⟩ a2).setCell ⟨b, 3, none⟩ a3).setCell ⟨b, 4, none⟩ a4
theorem set5_blk {w : World} {b t : Nat} {z0 z1 z2 z3 z4 : Value} (h : w.heap[b]? = some (.cells #[z0, z1, z2, z3, z4] t (0, 0))) (a0 a1 a2 a3 a4 : Value) : (set5 w b a0 a1 a2 a3 a4).heap[b]? = some (.cells #[a0, a1, a2, a3, a4] t (0, 0)) :=
  blk_set (blk_set (blk_set (blk_set (blk_set h 0 a0) 1 a1) 2 a2) 3 a3) 4 a4
theorem set5_fr (w : World) (b : Nat) (a0 a1 a2 a3 a4 : Value) : Fr (fun k => k = b) w (set5 w b a0 a1 a2 a3 a4) :=
  (((((Fr.refl (fun k => k = b) w).setCell (p := ⟨b, 0, none⟩) (.inl rfl) a0).setCell (p := ⟨b, 1, none⟩) (.inl rfl) a1).setCell (p := ⟨b, 2, none⟩) (.inl rfl) a2).setCell (p := ⟨b, 3, none⟩) (.inl rfl) a3).setCell (p := ⟨b, 4, none⟩) (.inl rfl) a4
/-- no block -/
def nob : Nat → Prop := fun _ => False
/-- one block -/
def one (g : Nat) : Nat → Prop := fun k => k = g
end Go.Proofs.YtmbkmfdmpimegaaDoor
namespace Go.Proofs.YtmbkmfdmpimegaaDoor
open Go.RowKit Go.Lib Go.Proofs.YtmbkmfdmpimegaaDoorW.PrintWords

/-- a rune that stands in no name -/
def oddR (r : Nat) : Bool := !(decide (97 ≤ r) && decide (r ≤ 122) || decide (48 ≤ r) && decide (r ≤ 57) || decide (r = 45))
def okC (c : UInt8) : Bool := !oddR c.toNat
def nameB (s : ByteArray) : Bool := decide (1 ≤ s.size) && decide (s.size ≤ 24) && s.data.toList.all okC

theorem decodeN_big (n b0 b1 b2 b3 : Nat) (h : 128 ≤ b0) : 128 ≤ (decodeN n b0 b1 b2 b3).1 := by
  unfold decodeN
  rw [if_neg (by omega)]
  repeat' split
  all_goals (simp; try omega)
theorem oddR_big {r : Nat} (h : 128 ≤ r) : oddR r = true := by
  unfold oddR
  simp; omega
theorem byte_get (s : ByteArray) (i : Nat) (h : i < s.size) : s.get! i = s[i] := by
  show s.data[i]! = s.data[i]
  rw [getElem!_pos s.data i h]
theorem idx_from_bad (s : ByteArray) : ∀ (f pos : Nat), s.size ≤ pos + f → (0 ≤ idxFuncFrom oddR true s f pos ↔ (s.data.toList.drop pos).any (fun c => !okC c) = true)
  | 0, pos, h => by
    rw [List.drop_of_length_le (by simpa using h)]
    simp [idxFuncFrom]
  | f + 1, pos, h => by
    unfold idxFuncFrom
    by_cases hp : pos < s.size
    · rw [if_pos hp, List.drop_eq_getElem_cons (by simpa using hp), List.any_cons]
      have hg : (s.data.toList[pos]'(by simpa using hp)) = s[pos] := rfl
      rw [hg]
      by_cases h8 : s[pos].toNat < 128
      · have hd : Utf8.decode s pos = (s[pos].toNat, 1) := by rw [decode_at, byte_get s pos hp]; exact by simp [decodeN, h8]
        rw [hd]
        by_cases ho : oddR s[pos].toNat = true
        · rw [if_pos ho]; simp [okC, ho]
        · rw [if_neg ho]
          have := idx_from_bad s f (pos + 1) (by omega)
          rw [this]
          have ho' : oddR s[pos].toNat = false := by simpa using ho
          simp [okC, ho']
      · have hd : 128 ≤ (Utf8.decode s pos).1 := by rw [decode_at, byte_get s pos hp]; exact decodeN_big _ _ _ _ _ (by omega)
        rw [if_pos (oddR_big hd)]
        simp [okC, oddR_big (show 128 ≤ s[pos].toNat by omega)]
    · rw [if_neg hp, List.drop_of_length_le (by simpa using hp)]
      simp
theorem idx_odd (s : ByteArray) : decide (0 ≤ idxFunc oddR true s) = !s.data.toList.all okC := by
  unfold idxFunc
  have := idx_from_bad s s.size 0 (by omega)
  rw [List.drop_zero] at this
  rw [Bool.eq_iff_iff, decide_eq_true_iff, this, List.not_all_eq_any_not]

theorem odd_at (w : World) : PredAt Tryd.prog 53 #[] encR oddR w := fun W r _ => by
  unfold FnGives
  have z1 : (97 : Int) ≤ (r : Int) ↔ 97 ≤ r := by omega
  have z2 : (r : Int) ≤ 122 ↔ r ≤ 122 := by omega
  have z3 : (48 : Int) ≤ (r : Int) ↔ 48 ≤ r := by omega
  have z4 : (r : Int) ≤ 57 ↔ r ≤ 57 := by omega
  have z5 : ((r : Int) == 45) = decide (r = 45) := by rw [Bool.eq_iff_iff]; simp; omega
  have Z5 := Aside0.mk z5
  clear z5
  by_cases h1 : 97 ≤ r <;> by_cases h2 : r ≤ 122 <;> by_cases h3 : 48 ≤ r <;> by_cases h4 : r ≤ 57
  all_goals first
    | (exfalso; omega)
    | (go_enter Tryd.func53, Tryd.ntmps53
       go_wp2
       go_ret
       exact ⟨by simp [oddR, h1, h2, h3, h4, Z5.out], 0, rfl⟩)


theorem strings_ContainsFunc_odd (s : ByteArray) (w : World) :
    Calls Tryd.prog 54 #[.string s, .func (.func 53) #[] #[]] w fun e w' => e = .returned (.bool (!s.data.toList.all okC)) ∧ Below w.heap.size w w' := by
  have hC := Tryd.strings_ContainsFunc 53 #[] (enters_of Tryd.func53 (by kernel_rfl) rfl) _ s w (odd_at w)
  rw [idx_odd] at hC
  exact hC

theorem name_calls (s : ByteArray) (w : World) :
    Calls Tryd.prog 38 #[.string s] w fun e w' => e = .returned (.bool (nameB s)) ∧ Below w.heap.size w w' := by
  by_cases h1 : 1 ≤ s.size
  · by_cases h2 : s.size ≤ 24
    · go_enter Tryd.func38, Tryd.ntmps38
      go_wp2_with (go_at_call 54; refine (strings_ContainsFunc_odd _ _).mono ?_; rintro e w' ⟨rfl, hb⟩)
      go_ret
      exact ⟨by simp [nameB, h1, h2], hb⟩
    · go_enter Tryd.func38, Tryd.ntmps38
      go_wp2
      go_ret
      exact ⟨by simp [nameB, h1, h2], Below.refl _ _⟩
  · go_enter Tryd.func38, Tryd.ntmps38
    go_wp2
    go_ret
    exact ⟨by simp [nameB, h1], Below.refl _ _⟩
/-- one byte more in the hash -/
def hstep (h b : Int) : Int := IntKind.u64.wrap ((Go.bits .xor .u64 h b) * 1099511628211)
/-- a word's bytes -/
def hbytes (h : Int) (l : List UInt8) : Int := l.foldl (fun h b => hstep h (b.toNat : Int)) h
/-- a word more -/
def hword (h : Int) (s : ByteArray) : Int := hstep (hbytes h s.data.toList) 256
def hwords (h : Int) (ws : List ByteArray) : Int := ws.foldl hword h
def hmix1 (h : Int) : Int := IntKind.u64.wrap (Go.bits .xor .u64 h (h / 2147483648) * 9202087104158670213)
def hmix2 (h : Int) : Int := IntKind.u64.wrap (Go.bits .xor .u64 h (h / 134217728) * 9356908073163150413)
def hmix3 (h : Int) : Int := Go.bits .xor .u64 h (h / 8589934592)
def hashI (seed : Int) (ws : List ByteArray) : Int := hmix3 (hmix2 (hmix1 (hwords (IntKind.u64.wrap (seed + 11400714819323198485)) ws)))

theorem hash1_calls (b h : Int) (B : Nat) (w : World) (hc : w.heap[B]? = some (.cells #[.int .u64 h] 22 (0, 0))) :
    Calls Tryd.prog 57 #[.int .u64 b, .pointer (some ⟨B, 0, none⟩)] w fun e w' => e = .returned (.tuple #[]) ∧ w'.heap[B]? = some (.cells #[.int .u64 (hstep h b)] 22 (0, 0)) ∧ ∀ N, N ≤ B → Below N w w' := by
  have c1 := cell_of_one hc
  have f1 := free_of_one hc
  go_enter Tryd.func57, Tryd.ntmps57
  go_wp2
  go_end0
  exact ⟨rfl, one_setCell hc, fun N hN => (Below.refl N w).setCell hN _⟩

theorem u64_byte (b : UInt8) : IntKind.u64.wrap (b.toNat : Int) = (b.toNat : Int) := by
  have := b.toNat_lt
  rw [IntKind.wrap_u64]
  omega
theorem ret_int {k : IntKind} {a b : Int} (h : a = b) : Ending.returned (.int k a) = .returned (.int k b) := by rw [h]
theorem strs_get {w : World} {A : Option Addr} {ws : List ByteArray} (h : Kd.C Kd.string w A ws.length ws) (k : Nat) (hk : k < ws.length) : ∃ ad, A = some ad ∧ w.cell? (ad.add k) = some (.string ws[k]) := by
  obtain ⟨ad, e, hc⟩ := Kd.at_string h (k : Int) (by omega) (by omega)
  refine ⟨ad, e, ?_⟩
  simpa [rdOf, List.getD, hk] using hc
theorem hwords_drop (h : Int) (ws : List ByteArray) (k : Nat) (hk : k < ws.length) : hwords h (ws.drop k) = hwords (hword h ws[k]) (ws.drop (k + 1)) := by
  rw [List.drop_eq_getElem_cons hk]; rfl
theorem hbytes_drop (h : Int) (s : ByteArray) (k : Nat) (hk : k < s.size) : hbytes h (s.data.toList.drop k) = hbytes (hstep h (s[k].toNat : Int)) (s.data.toList.drop (k + 1)) := by
  rw [List.drop_eq_getElem_cons (by simpa using hk)]; rfl
theorem hbytes_end (h : Int) (s : ByteArray) (k : Nat) (hk : ¬ k < s.size) : hbytes h (s.data.toList.drop k) = h := by
  rw [List.drop_of_length_le (by simpa using hk)]; rfl

set_option maxRecDepth 100000 in
set_option maxHeartbeats 400000 in
theorem hash_calls (seed : Int) (A : Option Addr) (c : Nat) (ws : List ByteArray) (w : World) (hr : Kd.C Kd.string w A ws.length ws) (hsz : ∀ s ∈ ws, s.size ≤ 9223372036854775807) :
    Calls Tryd.prog 43 #[.int .u64 seed, .slice A ws.length c] w fun e w' => e = .returned (.int .u64 (hashI seed ws)) ∧ Below w.heap.size w w' := by
  have HR := Aside0.mk hr
  have hn := hr.2.1
  have HS := Aside0.mk hsz
  clear hr hsz
  go_enter Tryd.func43, Tryd.ntmps43
  go_wp2
  go_loopw [15] (fun i wr => ∃ (k : Nat) (h : Int), i = .int .i64 k ∧ k ≤ ws.length ∧ Aside0 (wr.heap[w.heap.size]? = some (.cells #[.int .u64 h] 22 (0, 0))) ∧ Aside0 (hwords h (ws.drop k) = hwords (IntKind.u64.wrap (seed + 11400714819323198485)) ws) ∧ Aside0 (Below w.heap.size w wr)) (fun i _ => ws.length - (intOf i).toNat)
  case atStart => exact ⟨0, _, rfl, Nat.zero_le _, ⟨heap_alloc_new _ _⟩, ⟨rfl⟩, ⟨below_alloc (Below.refl _ _) _⟩⟩
  case round =>
    obtain ⟨k, h, rfl, hk, hb, HF, HB⟩ := hrel
    by_cases hlt : k < ws.length
    · obtain ⟨ad, rfl, hx⟩ := strs_get (Kd.C_below HR.out HB.out) k hlt
      have hs := HS.out ws[k] (List.getElem_mem hlt)
      obtain ⟨s, es⟩ : ∃ s, s = ws[k] := ⟨_, rfl⟩
      rw [← es] at hx hs
      have ES := Aside0.mk es
      clear es
      go_wp2
      obtain ⟨wo, rfl⟩ : ∃ wo : World, wo = wr := ⟨_, rfl⟩
      go_loopw [21] (fun i wr => ∃ (j : Nat) (h' : Int), i = .int .i64 j ∧ j ≤ s.size ∧ Aside0 (wr.heap[w.heap.size]? = some (.cells #[.int .u64 h'] 22 (0, 0))) ∧ Aside0 (hbytes h' (s.data.toList.drop j) = hbytes h s.data.toList) ∧ Aside0 (Below w.heap.size w wr)) (fun i _ => s.size - (intOf i).toNat)
      case atStart => exact ⟨0, h, rfl, Nat.zero_le _, hb, ⟨rfl⟩, HB⟩
      case round =>
        obtain ⟨j, h', rfl, hj, hb', HF', HB'⟩ := hrel
        by_cases hlt2 : j < s.size
        · go_wp2_with fail
          refine (hash1_calls _ _ w.heap.size _ hb'.out).mono ?_
          rintro e w1 ⟨rfl, h1, h2⟩
          have HB1 := Aside0.mk (HB'.out.trans (h2 w.heap.size (Nat.le_refl _)))
          have h1 := Aside0.mk h1
          clear h2 hb' HB'
          go_wp2
          go_roundw
          case rel => exact ⟨j + 1, _, by go_num, by omega, h1, ⟨by rw [← HF'.out, hbytes_drop _ _ _ hlt2, u64_byte]⟩, HB1⟩
          case measure => simp [intOf]; omega
        · have hend := Aside0.mk (HF'.out.symm.trans (hbytes_end h' s j hlt2))
          go_wp2_with fail
          refine (hash1_calls _ _ w.heap.size _ hb'.out).mono ?_
          rintro e w1 ⟨rfl, h1, h2⟩
          have HB1 := Aside0.mk (HB'.out.trans (h2 w.heap.size (Nat.le_refl _)))
          have h1 := Aside0.mk h1
          clear h2 hb' HB'
          go_wp2
          go_roundw
          case rel => exact ⟨k + 1, _, by go_num, by omega, h1, ⟨by rw [← HF.out, hwords_drop _ _ _ hlt, hword, ← ES.out, hend.out]⟩, HB1⟩
          case measure => simp [intOf]; omega
    · have hend := Aside0.mk (HF.out.symm.trans (by rw [List.drop_of_length_le (by omega)]; rfl : _ = h))
      have c1 := cell_of_one hb.out
      have f1 := free_of_one hb.out
      clear hb
      go_wp2
      go_ret
      exact ⟨ret_int (by unfold hashI; rw [hend.out]; rfl), (HB.out.setCell (by exact Nat.le_refl _) _).setCell (by exact Nat.le_refl _) _⟩
end Go.Proofs.YtmbkmfdmpimegaaDoor
namespace Go.Proofs.YtmbkmfdmpimegaaDoor
open Go.RowKit Go.Lib Go.Sort Go.Proofs.YtmbkmfdmpimegaaDoorW.PrintWords

/-- the table that the library's numerals are told by -/
def Tab (w : World) : Prop := Lib.TabIs Tryd.prog w "internal/strconv.uint64pow10" .u64 Lib.pow10Tab
theorem Tab.below {w w' : World} (h : Tab w) (hb : Below w.heap.size w w') : Tab w' := TabIs_below (g := 3) (by kernel_rfl) h hb

theorem strs_spot {w : World} {ad : Addr} {n : Nat} {ws : List ByteArray} (h : Kd.C Kd.string w (some ad) n ws) (hn : 0 < n) : ad.spot = none := by
  have hl := h.1
  obtain ⟨ad', e, hc⟩ := Kd.at_string h 0 (by omega) (by omega)
  obtain rfl : ad = ad' := by injection e
  have : (ad.add (0 : Int).toNat) = ad := by simp [Addr.add]
  rw [this] at hc
  unfold World.cell? at hc
  split at hc
  · split at hc
    · cases hc
    · rename_i hs; simpa using hs
  · cases hc

theorem strs_of_own {w : World} {base : Nat} {v : Value} {ws : List ByteArray} (h : w.ownsRow base 9 1 v ws.length (ws.map Value.string)) :
    ∃ A c, v = .slice A ws.length c ∧ ws.length ≤ c ∧ Kd.C Kd.string w A ws.length ws := by
  obtain ⟨A, c, he, hl, hr⟩ := own_reads_of_le (enc := Value.string) (d := ByteArray.empty) h
  exact ⟨A, c, he, hl, Kd.C_of_reads hr⟩

theorem clone_calls (A : Option Addr) (c : Nat) (ws : List ByteArray) (w : World) (hr : Kd.C Kd.string w A ws.length ws) (hbig : ws.length * 16 ≤ 140737488355328) :
    Calls Tryd.prog 25 #[.slice A ws.length c] w fun e w' => ∃ A' c', e = .returned (.slice A' ws.length c') ∧ ws.length ≤ c' ∧ Kd.C Kd.string w' A' ws.length ws ∧ Below w.heap.size w w' := by
  cases A with
  | none =>
    have h0 : ws = [] := by
      cases ws with
      | nil => rfl
      | cons a l =>
        obtain ⟨ad, e, _⟩ := hr.2.2 (by simp)
        cases e
    subst h0
    refine (Tryd.slices_Clone_string_nil 0 c w).mono ?_
    rintro e w' ⟨rfl, rfl⟩
    exact ⟨none, 0, rfl, Nat.zero_le _, Kd.C_nil _ _, Below.refl _ _⟩
  | some ad =>
    by_cases hn : ws.length = 0
    · obtain rfl : ws = [] := List.length_eq_zero_iff.1 hn
      refine (Tryd.slices_Clone_string_zero ad c w).mono ?_
      rintro e w' ⟨v', rfl, hown, _, hb⟩
      obtain ⟨A', c', rfl, hl, hC⟩ := strs_of_own (ws := []) hown
      exact ⟨A', c', rfl, hl, hC, hb⟩
    · have hs := strs_spot hr (by omega)
      obtain ⟨b, off, sp⟩ := ad
      obtain rfl : sp = none := hs
      refine (Tryd.slices_Clone_string b off ws.length c ws w (Nat.le_refl _) hbig ?_).mono ?_
      · intro j hj
        obtain ⟨ad, e, hc⟩ := strs_get hr j hj
        obtain rfl : (⟨b, off, none⟩ : Addr) = ad := by injection e
        rw [Lib.add_plain] at hc
        rw [hc, List.getD_eq_getElem?_getD, List.getElem?_eq_getElem hj]; rfl
      · rintro e w' ⟨v', rfl, hown, _, hb⟩
        rw [List.take_length] at hown
        obtain ⟨A', c', rfl, hl, hC⟩ := strs_of_own hown
        exact ⟨A', c', rfl, hl, hC, hb⟩

def itoaB (n : Int) : ByteArray := ⟨(Lib.itoa n).toArray⟩
theorem itoa_calls (n : Int) (h0 : -9223372036854775808 ≤ n) (h1 : n ≤ 9223372036854775807) (w : World) (ht : Tab w) :
    Calls Tryd.prog 42 #[.int .i64 n] w fun e w' => e = .returned (.string (itoaB n)) ∧ Below w.heap.size w w' := by
  refine (Tryd.strconv_Itoa n h0 h1 w ht).mono ?_
  rintro e w' ⟨rfl, k, os, rfl⟩
  exact ⟨rfl, Lib.below_grow _ w (Nat.le_refl _) k os⟩

/-- a number of 64 bits, by digits -/
def utoaB (u : Nat) : ByteArray := ⟨(Lib.decDigits u).toArray⟩
set_option maxRecDepth 100000 in
theorem fmtU_in (u : Nat) (hu64 : u < 18446744073709551616) (w : World) (ht : Tab w) :
    Calls Tryd.prog 58 #[.int .u64 u, .int .i64 10] w fun e w' => e = .returned (.string (utoaB u)) ∧ Below w.heap.size w w' := by
  by_cases hs : u < 100
  · have hw : IntKind.i64.wrap (u : Int) = u := by rw [IntKind.wrap_i64]; omega
    have HW := Aside0.mk hw
    clear hw
    go_enter Tryd.func58, Tryd.ntmps58
    go_wp2_with (go_at_call 74; refine (Tryd.internal_strconv_small u hs _).mono ?_; rintro e w' ⟨rfl, rfl⟩)
    go_ret
    exact ⟨rfl, Below.refl _ _⟩
  · have hu1 : 1 ≤ u := by omega
    have hnd20 : Lib.nDigits u ≤ 20 := by have := Lib.numDigits_eq u hu1 hu64; split at this <;> omega
    have hal : Tryd.prog.arrayLen 100 = 24 := by kernel_rfl
    have hsl1 : ∀ W, (Instr.sliceAt 100 (.pointer (some ⟨w.heap.size, 0, none⟩)) none (some (.int .i64 (Lib.nDigits u : Int))) none).run Tryd.prog W = .ok (.slice (some ⟨w.heap.size, 0, none⟩) (Lib.nDigits u) 24) W := fun W => by
      rw [run_sliceAt_array_h W 100 ⟨w.heap.size, 0, none⟩ (by kernel_rfl) .i64 (Lib.nDigits u : Int) (by omega) (by rw [hal]; omega)]
      go_simp
    have hH0 := Lib.holds_zero0 w 100 (Lib.nDigits u) (by omega)
    have hfmt := Tryd.internal_strconv_formatBase10 w.heap.size 0 24 u (Array.replicate (Lib.nDigits u) 0) (w.alloc (.cells Lib.zeros24 100)) hH0 (by rw [Array.size_replicate]; exact Lib.lt_pow_nDigits u) hu64 (by rw [Array.size_replicate]; omega)
    rw [Array.size_replicate] at hfmt
    have HH0 := Lib.hid hH0
    clear hH0 hal
    go_enter Tryd.func58, Tryd.ntmps58
    go_wp2_with (first
      | (go_at_call 75; refine (Tryd.internal_strconv_numDigits u hu1 hu64 _ (Lib.tabIs_alloc ht _)).mono ?_; rintro e w' ⟨rfl, rfl⟩))
    refine hfmt.mono ?_
    rintro e w' ⟨rfl, k, v', dk, rfl, hF⟩
    have hcv : (convert 39 9 (.slice (some ⟨w.heap.size, 0, none⟩) (Lib.nDigits u) 24)).run Tryd.prog ((putRow (fun (b : UInt8) => Value.int .u8 (b.toNat : Int)) (w.alloc (.cells Lib.zeros24 100)) w.heap.size 0 dk).drewN k) = .ok (.string ⟨(Lib.decDigits u).toArray⟩) ((putRow (fun (b : UInt8) => Value.int .u8 (b.toNat : Int)) (w.alloc (.cells Lib.zeros24 100)) w.heap.size 0 dk).drewN k) := by
      have h := run_convert_bytes_back (P := Tryd.prog) ((putRow (fun (b : UInt8) => Value.int .u8 (b.toNat : Int)) (w.alloc (.cells Lib.zeros24 100)) w.heap.size 0 dk).drewN k) 39 9 5 ⟨w.heap.size, 0, none⟩ 24 (Lib.decDigits u) Tryd.underlying39 Tryd.underlying5 Tryd.underlying9 (fun j hj => by
        rw [Lib.row_is_numeral hF j hj, Lib.add_plain, World.cell?_drewN]
        exact cell?_putRow (fun (b : UInt8) => Value.int .u8 (b.toNat : Int)) _ w.heap.size 0 _ dk HH0.out (by rw [hF.size, Array.size_replicate]) j (by rw [hF.size]; rw [Lib.decDigits_length] at hj; exact hj))
      rw [Lib.decDigits_length] at h
      exact h
    go_wp2
    go_ret
    obtain ⟨os, eo⟩ := Lib.fin_at w (.cells Lib.zeros24 100) dk k 0
    exact ⟨rfl, by rw [eo]; exact Lib.below_grow _ w (Nat.le_refl _) k os⟩
theorem fmtU_calls (u : Nat) (hu64 : u < 18446744073709551616) (w : World) (ht : Tab w) :
    Calls Tryd.prog 44 #[.int .u64 u, .int .i64 10] w fun e w' => e = .returned (.string (utoaB u)) ∧ Below w.heap.size w w' := by
  go_enter Tryd.func44, Tryd.ntmps44
  go_wp2_with (go_at_call 58; refine (fmtU_in u hu64 _ ht).mono ?_; rintro e w' ⟨rfl, hb⟩)
  go_ret
  exact ⟨rfl, hb⟩

theorem ret_bool {a b : Bool} (h : a = b) : Ending.returned (.bool a) = .returned (.bool b) := by rw [h]
theorem bcell {W w1 : World} (hb : Below W.heap.size W w1) : (∀ b o, b < W.heap.size → w1.cell? ⟨b, o, none⟩ = W.cell? ⟨b, o, none⟩) ∧ (∀ b o, b < W.heap.size → w1.frozen? ⟨b, o, none⟩ = W.frozen? ⟨b, o, none⟩) :=
  ⟨fun b o h => hb.cell (p := ⟨b, o, none⟩) h, fun b o h => hb.frozen (p := ⟨b, o, none⟩) h⟩
/-- may an entry be? -/
def mayE (o n : Int) (p : ByteArray) (is : List ByteArray) : Bool :=
  decide (0 ≤ o) && decide (o ≤ 1048576) && decide (0 ≤ n) && decide (n ≤ 1099511627776) && nameB p && decide (is.length ≤ 1000) && is.all nameB

theorem may1_calls (s : ByteArray) (w : World) :
    Calls Tryd.prog 40 #[.string s] w fun e w' => e = .returned (.bool (!nameB s)) ∧ Below w.heap.size w w' := by
  go_enter Tryd.func40, Tryd.ntmps40
  go_wp2_with (go_at_call 38; refine (name_calls _ _).mono ?_; rintro e w' ⟨rfl, hb⟩)
  go_ret
  exact ⟨rfl, hb⟩

/-- the place of the first that is no name -/
def badIdx : List ByteArray → Nat → Int
  | [], _ => -1
  | s :: l, k => if nameB s = true then badIdx l (k + 1) else (k : Int)
theorem badIdx_all : ∀ (l : List ByteArray) (k : Nat), decide (0 ≤ badIdx l k) = !l.all nameB
  | [], k => by simp [badIdx]
  | s :: l, k => by
    unfold badIdx
    by_cases h : nameB s = true
    · rw [if_pos h, badIdx_all l (k + 1)]; simp [h]
    · rw [if_neg h]
      have h' : nameB s = false := by simpa using h
      simp [h']
theorem badIdx_drop (ws : List ByteArray) (k : Nat) (hk : k < ws.length) : badIdx (ws.drop k) k = if nameB ws[k] = true then badIdx (ws.drop (k + 1)) (k + 1) else (k : Int) := by
  rw [List.drop_eq_getElem_cons hk]; rfl

set_option maxRecDepth 100000 in
theorem idx_calls (A : Option Addr) (c : Nat) (ws : List ByteArray) (w : World) (hr : Kd.C Kd.string w A ws.length ws) :
    Calls Tryd.prog 55 #[.slice A ws.length c, .func (.func 40) #[] #[]] w fun e w' => e = .returned (.int .i64 (badIdx ws 0)) ∧ Below w.heap.size w w' := by
  have HR := Aside0.mk hr
  have hn := hr.2.1
  clear hr
  go_enter Tryd.func55, Tryd.ntmps55
  go_wp2
  go_loopw [8] (fun i wr => ∃ k : Nat, i = .int .i64 k ∧ k ≤ ws.length ∧ Aside0 (badIdx (ws.drop k) k = badIdx ws 0) ∧ Aside0 (Below w.heap.size w wr)) (fun i _ => ws.length - (intOf i).toNat)
  case atStart => exact ⟨0, rfl, Nat.zero_le _, ⟨rfl⟩, ⟨Below.refl _ _⟩⟩
  case round =>
    obtain ⟨k, rfl, hk, HF, HB⟩ := hrel
    by_cases hlt : k < ws.length
    · obtain ⟨ad, rfl, hx⟩ := strs_get (Kd.C_below HR.out HB.out) k hlt
      have HD := Aside0.mk (badIdx_drop ws k hlt)
      cases hnm : nameB ws[k] with
      | true =>
        have HN := Aside0.mk hnm
        clear hnm
        go_wp2_with fail
        refine (may1_calls _ _).mono ?_
        rintro e w1 ⟨rfl, hb1⟩
        have HB1 := Aside0.mk (HB.out.trans (hb1.mono HB.out.size))
        clear hb1 HB
        rw [HN.out]
        go_wp2
        go_roundw
        case rel => exact ⟨k + 1, by go_num, by omega, ⟨by rw [← HF.out, HD.out, if_pos HN.out]⟩, HB1⟩
        case measure => simp [intOf]; omega
      | false =>
        have HN := Aside0.mk hnm
        clear hnm
        go_wp2_with fail
        refine (may1_calls _ _).mono ?_
        rintro e w1 ⟨rfl, hb1⟩
        have HB1 := Aside0.mk (HB.out.trans (hb1.mono HB.out.size))
        clear hb1 HB
        rw [HN.out]
        go_wp2
        go_ret
        exact ⟨ret_int (by rw [← HF.out, HD.out, if_neg (by rw [HN.out]; simp)]), HB1.out⟩
    · have hend := Aside0.mk (HF.out.symm.trans (by rw [List.drop_of_length_le (by omega)]; rfl : _ = -1))
      go_wp2
      go_ret
      exact ⟨ret_int hend.out.symm, HB.out⟩

theorem contains_calls (A : Option Addr) (c : Nat) (ws : List ByteArray) (w : World) (hr : Kd.C Kd.string w A ws.length ws) :
    Calls Tryd.prog 39 #[.slice A ws.length c, .func (.func 40) #[] #[]] w fun e w' => e = .returned (.bool (!ws.all nameB)) ∧ Below w.heap.size w w' := by
  have HR := Aside0.mk hr
  clear hr
  go_enter Tryd.func39, Tryd.ntmps39
  go_wp2_with (go_at_call 55; refine (idx_calls _ _ _ _ HR.out).mono ?_; rintro e w' ⟨rfl, hb⟩)
  go_ret
  exact ⟨by rw [← badIdx_all ws 0]; rfl, hb⟩

set_option maxHeartbeats 1000000 in
theorem mayE_calls (o n : Int) (p : ByteArray) (A : Option Addr) (c : Nat) (is : List ByteArray) (s : Int) (w : World) (hr : Kd.C Kd.string w A is.length is) :
    Calls Tryd.prog 26 #[.agg #[.int .i64 o, .int .i64 n, .string p, .slice A is.length c, .int .u64 s]] w fun e w' => e = .returned (.bool (mayE o n p is)) ∧ Below w.heap.size w w' := by
  have HR := Aside0.mk hr
  have hn := hr.2.1
  clear hr
  cases hp : nameB p
  all_goals
    have HP := Aside0.mk hp
    clear hp
    rcases (show o < 0 ∨ (0 ≤ o ∧ 1048576 < o) ∨ (0 ≤ o ∧ o ≤ 1048576 ∧ n < 0) ∨ (0 ≤ o ∧ o ≤ 1048576 ∧ 0 ≤ n ∧ 1099511627776 < n) ∨ (0 ≤ o ∧ o ≤ 1048576 ∧ 0 ≤ n ∧ n ≤ 1099511627776 ∧ 1000 < is.length) ∨ (0 ≤ o ∧ o ≤ 1048576 ∧ 0 ≤ n ∧ n ≤ 1099511627776 ∧ is.length ≤ 1000) by omega) with h1 | ⟨h1, h2⟩ | ⟨h1, h2, h3⟩ | ⟨h1, h2, h3, h4⟩ | ⟨h1, h2, h3, h4, h5⟩ | ⟨h1, h2, h3, h4, h5⟩
  all_goals
    go_enter Tryd.func26, Tryd.ntmps26
    go_wp2_with fail
  all_goals first
    | (go_ret
       exact ⟨ret_bool (by simp [mayE]; omega), below_alloc (Below.refl _ _) _⟩)
    | (refine (name_calls _ _).mono ?_
       rintro e w1 ⟨rfl, hb⟩
       rw [HP.out]
       obtain ⟨hc, hf⟩ := bcell hb
       have HB := Aside0.mk ((below_alloc (Below.refl w.heap.size w) _).trans (hb.mono (by simp)))
       clear hb
       go_wp2_with fail
       first
         | (go_ret
            exact ⟨ret_bool (by simp [mayE, HP.out]; try omega), HB.out⟩)
         | (refine (contains_calls _ _ _ _ (Kd.C_below HR.out HB.out)).mono ?_
            rintro e w2 ⟨rfl, hb2⟩
            have HB2 := Aside0.mk (HB.out.trans (hb2.mono HB.out.size))
            clear hb2
            go_wp2
            go_ret
            exact ⟨ret_bool (by simp [mayE, HP.out]; try omega), HB2.out⟩))
end Go.Proofs.YtmbkmfdmpimegaaDoor
namespace Go.Proofs.YtmbkmfdmpimegaaDoor
open Go.RowKit Go.Lib Go.Sort Go.Proofs.YtmbkmfdmpimegaaDoorW.PrintWords Go.Proofs.YtmbkmfdmpimegaaDoor.PR

/-- words that are gathered in a captured variable, block B: made since w0; what lay in w0 is as it was but for B -/
structure Words (w0 w : World) (B : Nat) (xs : List ByteArray) : Prop where
  ex : ∃ v, w.heap[B]? = some (.cells #[v] 28 (0, 0)) ∧ w.ownsRow w0.heap.size 9 1 v xs.length (encs Value.string xs)
  fr : Fr (one B) w0 w

set_option maxRecDepth 100000 in
theorem put_calls (B : Nat) (xs ls : List ByteArray) (A : Option Addr) (c : Nat) (w0 w : World) (hW : Words w0 w B xs) (hr : Kd.C Kd.string w A ls.length ls) (hl : (xs.length + ls.length) * 16 ≤ 140737488355328) :
    Calls Tryd.prog 41 #[.slice A ls.length c, .pointer (some ⟨B, 0, none⟩)] w fun e w' => e = .returned (.tuple #[]) ∧ Words w0 w' B (xs ++ ls) := by
  obtain ⟨⟨v, hv, hown⟩, hfr⟩ := hW
  have c1 := cell_of_one hv
  have f1 := free_of_one hv
  have HR := Aside0.mk (Kd.reads_of_C (d := ByteArray.empty) hr)
  have HO := Aside0.mk hown
  have HV := Aside0.mk hv
  have HF := Aside0.mk hfr
  have HL := Aside0.mk hl
  clear hr hown hv hfr hl
  go_enter Tryd.func41, Tryd.ntmps41
  go_wp2_with (at_builtin; refine print_append_row_of Value.string ByteArray.empty w0.heap.size rfl _ _ 28 9 (.string ⟨#[]⟩) 16 rfl Tryd.underlying28 info9 rfl (by decide) (fun _ => rfl) v xs ls A _ _ rfl rfl HO.out HR.out (Below.refl _ _) HF.out.size HL.out ?_)
  intro v1 w1 hown1 hb1 hg hat
  have hne : some B ≠ v.ownBlock := own_ne HO.out HV.out (by decide)
  have hv1 := blk_grown HV.out hg hne
  have c2 := cell_of_one hv1
  have f2 := free_of_one hv1
  have HF1 := Aside0.mk (HF.out.grown hg (fun k hk => .inr (own_base HO.out k hk)))
  have HO1 := Aside0.mk hown1
  have HV1 := Aside0.mk hv1
  clear hown1 hv1 hb1 hat hg c1 f1
  obtain ⟨A1, c1', rfl⟩ := own_slice HO1.out
  go_wp2
  go_end0
  exact ⟨rfl, ⟨_, one_setCell HV1.out, by rw [List.length_append]; exact own_setCell HO1.out (own_ne (t := 28) HO1.out HV1.out (by decide)) _⟩, HF1.out.setCell (p := ⟨B, 0, none⟩) (.inl rfl) _⟩

theorem strs_lit (W : World) (xs : List ByteArray) (hm : xs.length ≤ 9223372036854775807) : Kd.C Kd.string (W.alloc (.cells (encs Value.string xs).toArray 9)) (some ⟨W.heap.size, 0, none⟩) xs.length xs := by
  obtain ⟨A, c, he, _, hr⟩ := own_reads_of_le (d := ByteArray.empty) (own_lit_of (enc := Value.string) W 0 9 xs (Nat.zero_le _) hm)
  have e : A = some ⟨W.heap.size, 0, none⟩ := by injection he with h1 _ _; exact h1.symm
  subst e
  exact Kd.C_of_reads hr
theorem itoaB_size (n : Int) (h0 : -9223372036854775808 ≤ n) (h1 : n ≤ 9223372036854775807) : (itoaB n).size ≤ 9223372036854775807 := by
  have h := Lib.itoa_length_le n h0 h1
  have e : (itoaB n).size = (Lib.itoa n).length := by simp [itoaB, ByteArray.size]
  omega
def sumE (ahead : Int) (o n : Int) (p : ByteArray) (is : List ByteArray) : Int := hashI ahead ([itoaB o, itoaB n, p] ++ is)

set_option maxRecDepth 100000 in
set_option maxHeartbeats 2000000 in
theorem sumE_calls (o n : Int) (p : ByteArray) (A : Option Addr) (c : Nat) (is : List ByteArray) (s ahead : Int) (w : World) (hr : Kd.C Kd.string w A is.length is) (ht : Tab w)
    (ho0 : -9223372036854775808 ≤ o) (ho1 : o ≤ 9223372036854775807) (hn0 : -9223372036854775808 ≤ n) (hn1 : n ≤ 9223372036854775807) (hl : is.length ≤ 1000) (hsz : ∀ s ∈ is, s.size ≤ 9223372036854775807) (hp : p.size ≤ 9223372036854775807) :
    Calls Tryd.prog 27 #[.agg #[.int .i64 o, .int .i64 n, .string p, .slice A is.length c, .int .u64 s], .int .u64 ahead] w fun e w' => e = .returned (.int .u64 (sumE ahead o n p is)) ∧ Below w.heap.size w w' := by
  have HR := Aside0.mk hr
  have HS := Aside0.mk hsz
  have HT := Aside0.mk ht
  clear hr hsz ht
  go_enter Tryd.func27, Tryd.ntmps27
  have H0 := Aside0.mk ho0
  have H1 := Aside0.mk ho1
  have H2 := Aside0.mk hn0
  have H3 := Aside0.mk hn1
  clear ho0 ho1 hn0 hn1
  go_wp2
  obtain ⟨W0, e0⟩ : ∃ W0, W0 = (w.alloc (.cells #[.int .i64 o, .int .i64 n, .string p, .slice A is.length c, .int .u64 s] 33)).alloc (.cells #[.slice none 0 0] 28) := ⟨_, rfl⟩
  have hS0 : W0.cell? ⟨w.heap.size, 0, none⟩ = some (.int .i64 o) ∧ W0.cell? ⟨w.heap.size, 1, none⟩ = some (.int .i64 n) ∧ W0.cell? ⟨w.heap.size, 2, none⟩ = some (.string p) ∧ W0.cell? ⟨w.heap.size, 3, none⟩ = some (.slice A is.length c) := by
    subst e0
    exact ⟨by simp, by simp, by simp, by simp⟩
  have hw0 : Below w.heap.size w W0 := by
    subst e0
    exact below_alloc (below_alloc (Below.refl _ _) _) _
  have hv0 : W0.heap[w.heap.size + 1]? = some (.cells #[.slice none 0 0] 28 (0, 0)) := by
    subst e0
    have := heap_alloc_new (w.alloc (.cells #[.int .i64 o, .int .i64 n, .string p, .slice A is.length c, .int .u64 s] 33)) (.cells #[.slice none 0 0] 28)
    simpa using this
  rw [← e0]
  clear e0
  obtain ⟨c0, c1, c2, c3⟩ := hS0
  have keepS : ∀ {W : World}, Fr (one (w.heap.size + 1)) W0 W → (W.cell? ⟨w.heap.size, 0, none⟩ = some (.int .i64 o) ∧ W.cell? ⟨w.heap.size, 1, none⟩ = some (.int .i64 n) ∧ W.cell? ⟨w.heap.size, 2, none⟩ = some (.string p)) :=
    fun h => ⟨h.cell c0 (by simp [one]), h.cell c1 (by simp [one]), h.cell c2 (by simp [one])⟩
  have HQ0 := Aside0.mk (below_drew (Below.refl W0.heap.size W0))
  go_region_held3 (fun W => W.cell? ⟨w.heap.size, 0, none⟩ = some (.int .i64 o) ∧ W.cell? ⟨w.heap.size, 1, none⟩ = some (.int .i64 n) ∧ W.cell? ⟨w.heap.size, 2, none⟩ = some (.string p)) (first | exact keepS (Fr.of_below (‹Aside0 (Below W0.heap.size W0 _)›).out _) | exact keepS ((Fr.of_below (‹Aside0 (Below W0.heap.size W0 _)›).out _).alloc _) | exact keepS (‹Words W0 _ _ _›).fr) (first | (go_at_call 42; refine (itoa_calls _ (by first | exact H0.out | exact H2.out) (by first | exact H1.out | exact H3.out) _ (HT.out.below (hw0.trans ((‹Aside0 (Below W0.heap.size W0 _)›).out.mono hw0.size)))).mono ?_; (rintro e w' ⟨rfl, hb⟩); have HQ1 := Aside0.mk ((‹Aside0 (Below W0.heap.size W0 _)›).out.trans (hb.mono (‹Aside0 (Below W0.heap.size W0 _)›).out.size)); clear hb) | (go_at_call 41; refine (put_calls (w.heap.size + 1) [] [itoaB o, itoaB n, p] _ _ W0 _ ⟨⟨_, blk_below hv0 (below_alloc (‹Aside0 (Below W0.heap.size W0 _)›).out _), own_nil _ _ _ _⟩, (Fr.of_below (‹Aside0 (Below W0.heap.size W0 _)›).out _).alloc _⟩ (strs_lit _ [itoaB o, itoaB n, p] (by simp)) (by simp)).mono ?_; (rintro e w1 ⟨rfl, hW1⟩)))
  all_goals
    have hW2 := Aside0.mk (‹Words W0 _ _ _›)
    have c3' := hW2.out.fr.cell c3 (by simp [one])
    go_wp2_with fail
    refine (put_calls (w.heap.size + 1) _ is A c W0 _ hW2.out (Kd.C_below HR.out (hw0.trans ((hW2.out.fr.toBelow (B := w.heap.size) hw0.size (by simp [one]))))) (by simp; omega)).mono ?_
    rintro e w2 ⟨rfl, hW3⟩
    obtain ⟨⟨v, hv, hown⟩, hfr⟩ := hW3
    obtain ⟨A1, c1', rfl, hl1, hC⟩ := strs_of_own hown
    have cv := cell_of_one hv
    have HC := Aside0.mk hC
    have HF := Aside0.mk hfr
    clear hC hfr hown hv
    go_wp2_with fail
    refine (hash_calls ahead A1 c1' _ _ HC.out ?_).mono ?_
    · intro s hs
      simp only [List.nil_append, List.cons_append, List.mem_cons] at hs
      rcases hs with rfl | rfl | rfl | hs
      · exact itoaB_size _ H0.out H1.out
      · exact itoaB_size _ H2.out H3.out
      · exact hp
      · exact HS.out s hs
    · rintro e w3 ⟨rfl, hb⟩
      have HB := Aside0.mk ((hw0.trans (HF.out.toBelow (B := w.heap.size) hw0.size (by simp [one]))).trans (hb.mono (Nat.le_trans hw0.size HF.out.size)))
      clear hb
      go_wp2
      go_ret
      exact ⟨rfl, HB.out⟩
end Go.Proofs.YtmbkmfdmpimegaaDoor
namespace Go.Proofs.YtmbkmfdmpimegaaDoor
open Go.RowKit Go.Lib Go.Sort Go.Proofs.YtmbkmfdmpimegaaDoorW.PrintWords Go.Proofs.YtmbkmfdmpimegaaDoor.PR

/-- any block -/
def any : Nat → Prop := fun _ => True

theorem clone_row (A : Option Addr) (c : Nat) (ws : List ByteArray) (w : World) (hr : Kd.C Kd.string w A ws.length ws) (hbig : ws.length * 16 ≤ 140737488355328) :
    Calls Tryd.prog 25 #[.slice A ws.length c] w fun e w' => ∃ v', e = .returned v' ∧ Kd.string.R 9 w' w.heap.size any v' ws ∧ Below w.heap.size w w' := by
  cases A with
  | none =>
    have h0 : ws = [] := by
      cases ws with
      | nil => rfl
      | cons a l =>
        obtain ⟨ad, e, _⟩ := hr.2.2 (by simp)
        cases e
    subst h0
    refine (Tryd.slices_Clone_string_nil 0 c w).mono ?_
    rintro e w' ⟨rfl, rfl⟩
    exact ⟨_, rfl, Kd.R_nil _ _ _ _ _, Below.refl _ _⟩
  | some ad =>
    by_cases hn : ws.length = 0
    · obtain rfl : ws = [] := List.length_eq_zero_iff.1 hn
      refine (Tryd.slices_Clone_string_zero ad c w).mono ?_
      rintro e w' ⟨v', rfl, hown, _, hb⟩
      exact ⟨_, rfl, Kd.R_of_own (xs := []) hown (fun _ _ => trivial), hb⟩
    · have hs := strs_spot hr (by omega)
      obtain ⟨b, off, sp⟩ := ad
      obtain rfl : sp = none := hs
      refine (Tryd.slices_Clone_string b off ws.length c ws w (Nat.le_refl _) hbig ?_).mono ?_
      · intro j hj
        obtain ⟨ad, e, hc⟩ := strs_get hr j hj
        obtain rfl : (⟨b, off, none⟩ : Addr) = ad := by injection e
        rw [Lib.add_plain] at hc
        rw [hc, List.getD_eq_getElem?_getD, List.getElem?_eq_getElem hj]; rfl
      · rintro e w' ⟨v', rfl, hown, _, hb⟩
        rw [List.take_length] at hown
        exact ⟨_, rfl, Kd.R_of_own hown (fun _ _ => trivial), hb⟩

/-- an entry's value -/
def entV (x : S30) (v3 : Value) : Value := .agg #[.int .i64 x.f0, .int .i64 x.f1, .string x.f2, v3, .int .u64 x.f4]
/-- an entry that is handed back, its things in new memory -/
def EntRet (w : World) (x : S30) (e : Ending) (w' : World) : Prop := ∃ v3, e = .returned (entV x v3) ∧ Kd.string.R 9 w' w.heap.size any v3 x.f3

set_option maxRecDepth 100000 in
theorem entClone_calls (x : S30) (A : Option Addr) (c : Nat) (w : World) (hr : Kd.C Kd.string w A x.f3.length x.f3) (hbig : x.f3.length ≤ 1000000) :
    Calls Tryd.prog 29 #[entV x (.slice A x.f3.length c)] w fun e w' => EntRet w x e w' ∧ Below w.heap.size w w' := by
  have HR := Aside0.mk hr
  clear hr
  unfold entV
  go_enter Tryd.func29, Tryd.ntmps29
  go_wp2_with fail
  refine (clone_row A c x.f3 _ (Kd.C_below HR.out (below_alloc (below_alloc (Below.refl _ _) _) _)) (by omega)).mono ?_
  rintro e w1 ⟨v', rfl, hR, hb⟩
  obtain ⟨A1, c1, rfl⟩ := Kd.R_slice hR
  have b1 := blk_below (new_1of2 w _ _) hb
  have b2 := blk_below (new_2of2 w _ _) hb
  obtain ⟨p0, p1, p2, p3, p4, ps⟩ := five b1
  obtain ⟨q0, q1, q2, q3, q4, qs⟩ := five b2
  have f1 := blk_frozen b1
  have f2 := blk_frozen b2
  have HR1 := Aside0.mk hR
  have HB := Aside0.mk ((below_alloc (below_alloc (Below.refl w.heap.size w) _) _).trans (hb.mono (by simp; omega)))
  have B1 := Aside0.mk b1
  have B2 := Aside0.mk b2
  clear hR hb b1 b2
  go_wp2
  have B3 := blk_set (blk_set (blk_set (blk_set (blk_set (blk_far B2.out (p := ⟨w.heap.size, 3, none⟩) (by simp) (.slice A1 x.f3.length c1)) 0 (.int .i64 x.f0)) 1 (.int .i64 x.f1)) 2 (.string x.f2)) 3 (.slice A1 x.f3.length c1)) 4 (.int .u64 x.f4)
  have F := ((((((Fr.refl (fun k => k = w.heap.size ∨ k = w.heap.size + 1) w1).setCell (p := ⟨w.heap.size, 3, none⟩) (.inl (.inl rfl)) (.slice A1 x.f3.length c1)).setCell (p := ⟨w.heap.size + 1, 0, none⟩) (.inl (.inr rfl)) (.int .i64 x.f0)).setCell (p := ⟨w.heap.size + 1, 1, none⟩) (.inl (.inr rfl)) (.int .i64 x.f1)).setCell (p := ⟨w.heap.size + 1, 2, none⟩) (.inl (.inr rfl)) (.string x.f2)).setCell (p := ⟨w.heap.size + 1, 3, none⟩) (.inl (.inr rfl)) (.slice A1 x.f3.length c1)).setCell (p := ⟨w.heap.size + 1, 4, none⟩) (.inl (.inr rfl)) (.int .u64 x.f4)
  refine bodyPost_ret (v := entV x (.slice A1 x.f3.length c1)) (results_cell_row Tryd.results29 _ _ (w.heap.size + 1) 33 _ (0, 0) _ rfl B3 Tryd.underlying33 rfl (by kernel_rfl)) rfl ⟨⟨_, rfl, ?_⟩, ?_⟩
  · refine Kd.R_lower (R_fr HR1.out F ?_) (by simp; omega)
    intro k hk _ _
    simp at hk
    omega
  · exact HB.out.trans (F.toBelow (by omega) (fun k hk => by omega))
end Go.Proofs.YtmbkmfdmpimegaaDoor
