/-
  Events, and the walk of event.May. Rows of events in memory; the walks of event.Compare and event.Same. slices.BinarySearchFunc at events: by Compare. slices.Clone at events. slices.DeleteFunc at events; intake's without. slices.BinarySearchFunc at events, by a mark: Settled's.
-/
import Derived.Test.YtmmfoeckggpgdaaGreatDoorJ8
import Derived.Test.YtmmfoeckggpgdaaGreatDoorPEx
import Derived.Test.YtmmfoeckggpgdaaGreatDoorShelf
import Derived.Lib.SplitLaws
import Derived.Test.YtmmfoeckggpgdaaGreatDoorJ9
import Derived.Test.YtmmfoeckggpgdaaGreatDoorPCx
import Derived.StillTailTactics
import Derived.Test.YtmmfoeckggpgdaaGreatDoorJA
set_option linter.unusedSimpArgs false
set_option linter.unusedVariables false
namespace Go.Proofs.YtmmfoeckggpgdaaGreatDoor
open Go.RowKit Go.Lib Go.Proofs.YtmmfoeckggpgdaaGreatDoorW.PrintWords

/-- an event -/
structure Ev where
  source : ByteArray
  number : Int
  at_ : Int
  kind : Int
  person : ByteArray
  item : ByteArray
  value : Int
  text : ByteArray
def evC (e : Ev) : List Value := [.string e.source, .int .i64 e.number, .int .i64 e.at_, .int .i64 e.kind, .string e.person, .string e.item, .int .i64 e.value, .string e.text]
def evV (e : Ev) : Value := .agg (evC e).toArray

/-- what a kind asks for: person, item, maker, goods, least, most, is it one -/
def rowB (k : Int) : Bool × Bool × Bool × Bool × Int × Int × Bool :=
  if k = 0 ∨ k = 1 ∨ k = 2 ∨ k = 3 ∨ k = 5 ∨ k = 6 then (true, true, false, false, 0, 0, true)
  else if k = 4 then (true, true, false, false, 1, 5, true)
  else if k = 7 ∨ k = 8 ∨ k = 9 ∨ k = 10 then (true, false, true, false, 0, 0, true)
  else if k = 11 then (false, true, false, true, 0, 1048576, true)
  else if k = 12 then (false, true, false, false, 0, 1048576, true)
  else if k = 13 then (false, true, false, false, 0, 0, true)
  else if k = 14 then (true, false, false, false, 0, 0, true)
  else (false, false, false, false, 0, 0, false)
theorem row_f (k : Int) : PE.event_row.f 2 k = some (rowB k) := by
  by_cases h0 : k = 0
  · subst h0; rfl
  by_cases h1 : k = 1
  · subst h1; rfl
  by_cases h2 : k = 2
  · subst h2; rfl
  by_cases h3 : k = 3
  · subst h3; rfl
  by_cases h4 : k = 4
  · subst h4; rfl
  by_cases h5 : k = 5
  · subst h5; rfl
  by_cases h6 : k = 6
  · subst h6; rfl
  by_cases h7 : k = 7
  · subst h7; rfl
  by_cases h8 : k = 8
  · subst h8; rfl
  by_cases h9 : k = 9
  · subst h9; rfl
  by_cases h10 : k = 10
  · subst h10; rfl
  by_cases h11 : k = 11
  · subst h11; rfl
  by_cases h12 : k = 12
  · subst h12; rfl
  by_cases h13 : k = 13
  · subst h13; rfl
  by_cases h14 : k = 14
  · subst h14; rfl
  simp [rowB, PE.event_row.f, PE.event_row.j0, PE.event_row.j1, h0, h1, h2, h3, h4, h5, h6, h7, h8, h9, h10, h11, h12, h13, h14]
theorem row_calls (k : Int) (w : World) : Calls Tryz.prog 138 #[.int .i64 k] w fun e w' => e = .returned (.tuple #[.agg #[.bool (rowB k).1, .bool (rowB k).2.1, .bool (rowB k).2.2.1, .bool (rowB k).2.2.2.1, .int .i64 (rowB k).2.2.2.2.1, .int .i64 (rowB k).2.2.2.2.2.1], .bool (rowB k).2.2.2.2.2.2]) ∧ Below w.heap.size w w' :=
  PE.event_row.calls 2 k _ _ _ _ _ _ _ w (row_f k)
theorem eWithin_calls (n a b : Int) (w : World) : Calls Tryz.prog 139 #[.int .i64 n, .int .i64 a, .int .i64 b] w fun e w' => e = .returned (.bool (decide (a ≤ n) && decide (n ≤ b))) ∧ Below w.heap.size w w' := by
  go_enter Tryz.func139, Tryz.ntmps139
  by_cases h : a ≤ n
  · go_wp2
    go_ret
    exact ⟨by simp [h], Below.refl _ _⟩
  · go_wp2
    go_ret
    exact ⟨by simp; omega, Below.refl _ _⟩
/-- a name that is asked for, or none -/
def namedB (s : ByteArray) (asked : Bool) : Bool := if asked then nameB s else s.toList.isEmpty
theorem named_calls (s : ByteArray) (asked : Bool) (w : World) : Calls Tryz.prog 140 #[.string s, .bool asked] w fun e w' => e = .returned (.bool (namedB s asked)) ∧ Below w.heap.size w w' := by
  cases asked
  · go_enter Tryz.func140, Tryz.ntmps140
    go_wp2
    go_ret
    exact ⟨by simp [namedB], Below.refl _ _⟩
  · go_enter Tryz.func140, Tryz.ntmps140
    by_cases hn : nameB s = true
    · go_wp2_with (go_at_call 128; refine (name_calls _ _).mono ?_; rintro e w' ⟨rfl, hb⟩)
      go_ret
      exact ⟨by simp [namedB, hn], hb⟩
    · go_wp2_with (go_at_call 128; refine (name_calls _ _).mono ?_; rintro e w' ⟨rfl, hb⟩)
      go_ret
      exact ⟨by simp [namedB, hn], hb⟩
/-! ### goods -/
def noText : ByteArray := ⟨#[]⟩
/-- may the k-th tag stand? -/
def okTag (l : List ByteArray) (k : Nat) : Bool := nameB (l.getD k noText) && (decide (k = 0) || Op.bytesLess (l.getD (k - 1) noText).toList (l.getD k noText).toList)
def tagsOf (t : ByteArray) : List ByteArray := Lib.splitB ⟨#[44]⟩ 0 (Lib.countB t ⟨#[44]⟩) t
def tagsB (l : List ByteArray) : Bool := decide (∀ j, j < l.length → okTag l j = true) && decide (l.length ≤ 8)
def goodsB (s : ByteArray) : Bool :=
  let c := Lib.cut s.data.toList [59]
  c.2.2 && nameB ⟨c.1.toArray⟩ && ((⟨c.2.1.toArray⟩ : ByteArray).toList.isEmpty || tagsB (tagsOf ⟨c.2.1.toArray⟩))
theorem cut_small {s : ByteArray} {c1 c2 : List UInt8} {f : Bool} {n : Nat} (h : (c1, c2, f) = Lib.cut s.data.toList [59]) (hs : s.size < n) : (⟨c2.toArray⟩ : ByteArray).size < n := by
  unfold Lib.cut at h
  have e : (⟨c2.toArray⟩ : ByteArray).size = c2.length := List.size_toArray
  have e2 : s.data.toList.length = s.size := Array.length_toList
  rw [e]
  split at h
  · simp only [Prod.mk.injEq] at h
    rw [h.2.1, List.length_drop]
    omega
  · simp only [Prod.mk.injEq] at h
    rw [h.2.1]
    simp; omega
theorem upto_one {p : Nat → Bool} (h : p 0 = true) : ∀ j, j < 1 → p j = true := fun j hj => by obtain rfl : j = 0 := Nat.lt_one_iff.1 hj; exact h
theorem upto_succ {p : Nat → Bool} {k : Nat} (h : ∀ j, j < k → p j = true) (hk : p k = true) : ∀ j, j < k + 1 → p j = true := fun j hj => by
  rcases Nat.lt_or_eq_of_le (Nat.le_of_lt_succ hj) with h1 | rfl
  · exact h j h1
  · exact hk
theorem geq_text (a b : ByteArray) (w : World) : (Go.binOp .geq 9 (.string a) (.string b)).run Tryz.prog w = .ok (.bool (!Op.bytesLess a.toList b.toList)) w := by
  kernel_rfl
theorem cells_at {w : World} {b : Nat} {l : List ByteArray} {E : TypeId} (h : w.heap[b]? = some (.cells (l.map Value.string).toArray E (0, 0))) (k : Nat) (hk : k < l.length) : w.cell? ⟨b, k, none⟩ = some (.string l[k]) := by
  rw [blk_cell h k]
  simp [hk]
set_option maxRecDepth 100000 in
theorem goods_calls (s : ByteArray) (m : Int) (w : World) (hs : s.size < 4294967281) (hm : w.cell? ⟨0, 0, none⟩ = some (.int .i64 m)) : Calls Tryz.prog 141 #[.string s] w fun e w' => e = .returned (.bool (goodsB s)) ∧ Below w.heap.size w w' := by
  have hcut := Tryz.strings_Cut s ⟨#[59]⟩ m w hs hm
  have HS : Aside0 (∀ n, (w.drewN n).heap.size = w.heap.size) := ⟨fun n => rfl⟩
  obtain ⟨c, hc⟩ : ∃ c, c = Lib.cut s.data.toList [59] := ⟨_, rfl⟩
  rw [show (⟨#[59]⟩ : ByteArray).data.toList = [59] from rfl, ← hc] at hcut
  obtain ⟨c1, c2, c3⟩ := c
  have hz := cut_small hc hs
  obtain ⟨S1, hS1⟩ : ∃ S : ByteArray, S = ⟨c1.toArray⟩ := ⟨_, rfl⟩
  obtain ⟨S2, hS2⟩ : ∃ S : ByteArray, S = ⟨c2.toArray⟩ := ⟨_, rfl⟩
  have HG : Aside0 (goodsB s = (c3 && nameB S1 && (S2.toList.isEmpty || tagsB (tagsOf S2)))) := ⟨by rw [hS1, hS2]; unfold goodsB; rw [← hc]⟩
  rw [← hS2] at hz
  simp only at hcut
  rw [← hS1, ← hS2] at hcut
  have HZ := Aside0.mk hz
  clear hc hS1 hS2 hz
  have HCnt : Aside0 ((tagsOf S2).length = Lib.countB S2 ⟨#[44]⟩ + 1) := ⟨by unfold tagsOf; exact Lib.splitB_all _ (by decide) 0 _ _ rfl⟩
  go_enter Tryz.func141, Tryz.ntmps141
  go_wp2_with fail
  refine hcut.mono ?_
  rintro e w1 ⟨rfl, n1, rfl⟩
  clear hcut
  obtain ⟨w1, hw1⟩ : ∃ w1, w1 = w.drewN n1 := ⟨_, rfl⟩
  rw [← hw1]
  have HB1 : Aside0 (Below w.heap.size w w1) := ⟨by rw [hw1]; exact pw_below_drewN (Below.refl _ _) n1⟩
  have hm1 : w1.cell? ⟨0, 0, none⟩ = some (.int .i64 m) := by rw [hw1]; exact hm
  have HM1 := Aside0.mk hm1
  clear hw1 hm hm1
  cases c3
  · go_wp2
    go_ret
    exact ⟨by rw [HG.out]; rfl, HB1.out⟩
  · go_wp2_with fail
    refine (name_calls _ w1).mono ?_
    rintro e w2 ⟨rfl, hb2⟩
    have HB2 := Aside0.mk (HB1.out.trans (hb2.mono HB1.out.size))
    have HM2 := Aside0.mk ((hb2.cell (World.block_lt_of_cell? w1 _ HM1.out)).trans HM1.out)
    clear hb2
    cases hn : nameB S1
    · go_wp2
      go_ret
      exact ⟨by rw [HG.out]; simp [hn], HB2.out⟩
    · cases he : S2.toList.isEmpty
      · go_wp2_with fail
        obtain ⟨l, hl⟩ : ∃ l, l = tagsOf S2 := ⟨_, rfl⟩
        have hsp := Tryz.strings_Split S2 ⟨#[44]⟩ m w2 HZ.out HM2.out (by decide)
        rw [show Lib.splitB ⟨#[44]⟩ 0 (Lib.countB S2 ⟨#[44]⟩) S2 = l from hl.symm, ← HCnt.out, ← hl] at hsp
        refine hsp.mono ?_
        rintro e w3 ⟨rfl, h3⟩
        have HGG : Aside0 (goodsB s = tagsB l) := ⟨by rw [HG.out, hl]; simp [hn, he]⟩
        have HL3 : Aside0 (w3.heap[w2.heap.size]? = some (.cells (l.map Value.string).toArray 9 (0, 0))) := ⟨by rw [h3]; show (w2.heap.push _)[w2.heap.size]? = _; exact Array.getElem?_push_size⟩
        have HB3 : Aside0 (Below w.heap.size w w3) := ⟨by rw [h3]; exact below_alloc HB2.out _⟩
        have hb : l.length ≤ 4294967282 := by have h5 := HCnt.out; rw [← hl] at h5; have h6 := Lib.countB_le ⟨#[44]⟩ (by decide) S2.size S2 (Nat.le_refl _); have h7 := HZ.out; omega
        clear hsp h3 hl he hn HG
        go_wp2_with fail
        go_loopw [28] (fun i wr => ∃ k : Nat, i = .int .i64 k ∧ k ≤ l.length ∧ Aside0 (∀ j, j < k → okTag l j = true) ∧ Aside0 (wr.heap[w2.heap.size]? = some (.cells (l.map Value.string).toArray 9 (0, 0))) ∧ Aside0 (Below w.heap.size w wr)) (fun i _ => l.length - (intOf i).toNat)
        case atStart => exact ⟨0, rfl, Nat.zero_le _, ⟨fun j hj => absurd hj (Nat.not_lt_zero j)⟩, HL3, HB3⟩
        case round =>
          obtain ⟨k, rfl, hk, HK, HLr, HBr⟩ := hrel
          clear HL3 HB3 HB2 HM2 HM1 HB1
          by_cases hlt : k < l.length
          · have hck : wr.cell? ⟨w2.heap.size, k, none⟩ = some (.string l[k]) := cells_at HLr.out k hlt
            have hfk := blk_frozen HLr.out k
            have HT0 : Aside0 (okTag l k = (nameB l[k] && (decide (k = 0) || Op.bytesLess (l.getD (k - 1) noText).toList (l[k]).toList))) := ⟨by unfold okTag; rw [List.getD_eq_getElem?_getD, List.getElem?_eq_getElem hlt]; rfl⟩
            obtain ⟨tg, htg⟩ : ∃ tg, tg = l[k] := ⟨_, rfl⟩
            rw [← htg] at hck HT0
            clear htg
            go_wp2_with fail
            refine (name_calls _ wr).mono ?_
            rintro e w4 ⟨rfl, hb4⟩
            have HB4 := Aside0.mk (HBr.out.trans (hb4.mono HBr.out.size))
            have HL4 := Aside0.mk ((hb4.block _ (blk_lt HLr.out)).trans HLr.out)
            clear hb4 hck hfk
            cases hnt : nameB tg
            · go_wp2
              go_ret
              exact ⟨by rw [HGG.out]; have h1 : ¬ (∀ j, j < l.length → okTag l j = true) := fun h => by have h2 := h k hlt; rw [HT0.out, hnt] at h2; simp at h2
                        simp only [tagsB, decide_eq_false h1, Bool.false_and]; rfl, HB4.out⟩
            · rcases k with _ | k
              · go_wp2
                go_roundw
                case rel => exact ⟨1, rfl, hlt, ⟨upto_one (by rw [HT0.out, hnt]; simp)⟩, HL4, HB4⟩
                case measure => simp [intOf]; omega
              · have hck : w4.cell? ⟨w2.heap.size, k, none⟩ = some (.string l[k]) := cells_at HL4.out k (by omega)
                have hfk := blk_frozen HL4.out k
                have HT1 : Aside0 (okTag l (k + 1) = Op.bytesLess (l[k]).toList tg.toList) := ⟨by rw [HT0.out, hnt, show k + 1 - 1 = k from rfl, List.getD_eq_getElem?_getD, List.getElem?_eq_getElem (by omega : k < l.length)]; simp⟩
                obtain ⟨tf, htf⟩ : ∃ tf, tf = l[k] := ⟨_, rfl⟩
                rw [← htf] at hck HT1
                clear htf HT0
                have hge := fun W => geq_text tf tg W
                cases hle : Op.bytesLess tf.toList tg.toList
                · have HLE := Aside0.mk hle
                  rw [hle] at hge
                  clear hle
                  go_wp2
                  go_ret
                  exact ⟨by rw [HGG.out]; have h1 : ¬ (∀ j, j < l.length → okTag l j = true) := fun h => by have h2 := h (k + 1) hlt; rw [HT1.out, HLE.out] at h2; simp at h2
                            simp only [tagsB, decide_eq_false h1, Bool.false_and]; rfl, HB4.out⟩
                · have HLE := Aside0.mk hle
                  rw [hle] at hge
                  clear hle
                  go_wp2
                  go_roundw
                  case rel => exact ⟨k + 1 + 1, by go_num, hlt, ⟨upto_succ HK.out (by rw [HT1.out, HLE.out])⟩, HL4, HB4⟩
                  case measure => simp [intOf]; omega
          · obtain rfl : k = l.length := by omega
            have HT : Aside0 (tagsB l = decide (l.length ≤ 8)) := ⟨by simp only [tagsB, decide_eq_true HK.out, Bool.true_and]⟩
            go_wp2
            go_ret
            exact ⟨by rw [HGG.out, HT.out]; simp; omega, HBr.out⟩
      · go_wp2
        go_ret
        exact ⟨by rw [HG.out]; simp [hn, he], HB2.out⟩
/-! ### May -/
def mayB (e : Ev) : Bool :=
  let r := rowB e.kind
  r.2.2.2.2.2.2 && (nameB e.source && ((decide (1 ≤ e.number) && decide (e.number ≤ 1099511627776)) && ((decide (0 ≤ e.at_) && decide (e.at_ ≤ 1099511627776)) && ((decide (r.2.2.2.2.1 ≤ e.value) && decide (e.value ≤ r.2.2.2.2.2.1)) &&
    (namedB e.person r.1 && (namedB e.item r.2.1 && (if r.2.2.2.1 then goodsB e.text else namedB e.text r.2.2.1)))))))
theorem and_peel {q : Bool} (X : Bool) (h : true = q) : (q && X) = X := by rw [← h]; rfl
set_option maxHeartbeats 4000000 in
set_option maxRecDepth 100000 in
theorem may_calls (x : Ev) (m : Int) (w : World) (hs : x.text.size < 4294967281) (hm : w.cell? ⟨0, 0, none⟩ = some (.int .i64 m)) : Calls Tryz.prog 96 #[evV x] w fun e w' => e = .returned (.bool (mayB x)) ∧ Below w.heap.size w w' := by
  obtain ⟨s0, s1, s2, s3, s4, s5, s6, s7⟩ := x
  obtain ⟨r, hr⟩ : ∃ r, r = rowB s3 := ⟨_, rfl⟩
  have hrow := fun W => row_calls s3 W
  rw [← hr] at hrow
  have hM : mayB ⟨s0, s1, s2, s3, s4, s5, s6, s7⟩ = (r.2.2.2.2.2.2 && (nameB s0 && ((decide (1 ≤ s1) && decide (s1 ≤ 1099511627776)) && ((decide (0 ≤ s2) && decide (s2 ≤ 1099511627776)) && ((decide (r.2.2.2.2.1 ≤ s6) && decide (s6 ≤ r.2.2.2.2.2.1)) && (namedB s4 r.1 && (namedB s5 r.2.1 && (if r.2.2.2.1 then goodsB s7 else namedB s7 r.2.2.1)))))))) := by rw [hr]; rfl
  clear hr
  obtain ⟨r0, r1, r2, r3, r4, r5, r6⟩ := r
  simp only at hrow hM
  have HM := Aside0.mk hM
  have HR := Aside0.mk hrow
  have HMm := Aside0.mk hm
  have HS := Aside0.mk hs
  clear hrow hM hm hs
  go_enter Tryz.func96, Tryz.ntmps96
  unfold evV evC
  go_wp2_with fail
  refine (HR.out _).mono ?_
  rintro e w1 ⟨rfl, hb1⟩
  have HBX : Aside0 (w1.heap[w.heap.size]? = some (.cells #[.string s0, .int .i64 s1, .int .i64 s2, .int .i64 s3, .string s4, .string s5, .int .i64 s6, .string s7] 28 (0, 0))) := ⟨(hb1.block _ (by show w.heap.size < (w.heap.push _).size; rw [Array.size_push]; omega)).trans (by show (w.heap.push _)[w.heap.size]? = _; exact Array.getElem?_push_size)⟩
  have HB1 : Aside0 (Below w.heap.size w w1) := ⟨(below_alloc (Below.refl _ _) _).trans (hb1.mono (by show w.heap.size ≤ (w.heap.push _).size; rw [Array.size_push]; omega))⟩
  clear hb1
  obtain ⟨W2, hW2⟩ : ∃ W2, W2 = w1.alloc (.cells #[.bool r0, .bool r1, .bool r2, .bool r3, .int .i64 r4, .int .i64 r5] 178) := ⟨_, rfl⟩
  have HX2 : Aside0 (W2.heap[w.heap.size]? = some (.cells #[.string s0, .int .i64 s1, .int .i64 s2, .int .i64 s3, .string s4, .string s5, .int .i64 s6, .string s7] 28 (0, 0))) := ⟨by rw [hW2]; exact (show (w1.heap.push _)[w.heap.size]? = w1.heap[w.heap.size]? by rw [Array.getElem?_push, if_neg (by have := blk_lt HBX.out; omega)]).trans HBX.out⟩
  have HA2 : Aside0 (W2.heap[w1.heap.size]? = some (.cells #[.bool r0, .bool r1, .bool r2, .bool r3, .int .i64 r4, .int .i64 r5] 178 (0, 0))) := ⟨by rw [hW2]; exact Array.getElem?_push_size⟩
  have HB2 : Aside0 (Below w.heap.size w W2) := ⟨by rw [hW2]; exact below_alloc HB1.out _⟩
  have hc0 : W2.cell? ⟨w.heap.size, 0, none⟩ = some (.string s0) := blk_cell HX2.out 0
  have HW2 := Aside0.mk hW2
  rw [hW2] at hc0
  clear hW2
  cases r6
  · go_wp2
    go_ret
    exact ⟨by rw [HM.out]; rfl, below_alloc HB1.out _⟩
  · go_wp2_with fail
    rw [← HW2.out]
    have HMt := Aside0.mk (HM.out.trans (Bool.true_and _))
    clear HM
    have HM := HMt
    clear HMt
    clear HW2 hc0 HBX HB1
    refine (name_calls s0 W2).mono ?_
    rintro e w3 ⟨rfl, hb3⟩
    have HX3 := Aside0.mk ((hb3.block _ (blk_lt HX2.out)).trans HX2.out)
    have HA3 := Aside0.mk ((hb3.block _ (blk_lt HA2.out)).trans HA2.out)
    have HB3 := Aside0.mk (HB2.out.trans (hb3.mono HB2.out.size))
    clear hb3 HX2 HA2 HB2
    obtain ⟨q3, hq3⟩ : ∃ q3, q3 = (nameB s0) := ⟨_, rfl⟩
    have HQ := Aside0.mk hq3
    rw [← hq3]
    clear hq3
    cases q3
    · go_wp2
      go_ret
      exact ⟨by rw [HM.out, ← HQ.out]; simp, HB3.out⟩
    · have HM2 := Aside0.mk (HM.out.trans (and_peel _ HQ.out))
      clear HM HQ
      have HM := HM2
      clear HM2
      have hn0 := blk_cell HX3.out 1
      go_wp2_with fail
      clear hn0
      refine (eWithin_calls s1 1 1099511627776 w3).mono ?_
      rintro e w4 ⟨rfl, hb4⟩
      have HX4 := Aside0.mk ((hb4.block _ (blk_lt HX3.out)).trans HX3.out)
      have HA4 := Aside0.mk ((hb4.block _ (blk_lt HA3.out)).trans HA3.out)
      have HB4 := Aside0.mk (HB3.out.trans (hb4.mono HB3.out.size))
      clear hb4 HX3 HA3 HB3
      obtain ⟨q4, hq4⟩ : ∃ q4, q4 = (decide (1 ≤ s1) && decide (s1 ≤ 1099511627776)) := ⟨_, rfl⟩
      have HQ := Aside0.mk hq4
      rw [← hq4]
      clear hq4
      cases q4
      · go_wp2
        go_ret
        exact ⟨by rw [HM.out, ← HQ.out]; simp, HB4.out⟩
      · have HM2 := Aside0.mk (HM.out.trans (and_peel _ HQ.out))
        clear HM HQ
        have HM := HM2
        clear HM2
        have hn0 := blk_cell HX4.out 2
        go_wp2_with fail
        clear hn0
        refine (eWithin_calls s2 0 1099511627776 w4).mono ?_
        rintro e w5 ⟨rfl, hb5⟩
        have HX5 := Aside0.mk ((hb5.block _ (blk_lt HX4.out)).trans HX4.out)
        have HA5 := Aside0.mk ((hb5.block _ (blk_lt HA4.out)).trans HA4.out)
        have HB5 := Aside0.mk (HB4.out.trans (hb5.mono HB4.out.size))
        clear hb5 HX4 HA4 HB4
        obtain ⟨q5, hq5⟩ : ∃ q5, q5 = (decide (0 ≤ s2) && decide (s2 ≤ 1099511627776)) := ⟨_, rfl⟩
        have HQ := Aside0.mk hq5
        rw [← hq5]
        clear hq5
        cases q5
        · go_wp2
          go_ret
          exact ⟨by rw [HM.out, ← HQ.out]; simp, HB5.out⟩
        · have HM2 := Aside0.mk (HM.out.trans (and_peel _ HQ.out))
          clear HM HQ
          have HM := HM2
          clear HM2
          have hn0 := blk_cell HX5.out 6
          have hn1 := blk_cell HA5.out 4
          have hn2 := blk_cell HA5.out 5
          go_wp2_with fail
          clear hn0 hn1 hn2
          refine (eWithin_calls s6 r4 r5 w5).mono ?_
          rintro e w6 ⟨rfl, hb6⟩
          have HX6 := Aside0.mk ((hb6.block _ (blk_lt HX5.out)).trans HX5.out)
          have HA6 := Aside0.mk ((hb6.block _ (blk_lt HA5.out)).trans HA5.out)
          have HB6 := Aside0.mk (HB5.out.trans (hb6.mono HB5.out.size))
          clear hb6 HX5 HA5 HB5
          obtain ⟨q6, hq6⟩ : ∃ q6, q6 = (decide (r4 ≤ s6) && decide (s6 ≤ r5)) := ⟨_, rfl⟩
          have HQ := Aside0.mk hq6
          rw [← hq6]
          clear hq6
          cases q6
          · go_wp2
            go_ret
            exact ⟨by rw [HM.out, ← HQ.out]; simp, HB6.out⟩
          · have HM2 := Aside0.mk (HM.out.trans (and_peel _ HQ.out))
            clear HM HQ
            have HM := HM2
            clear HM2
            have hn0 := blk_cell HA6.out 3
            have hn1 := blk_cell HX6.out 4
            have hn2 := blk_cell HA6.out 0
            cases r3
            · skip
              go_wp2_with fail
              clear hn0 hn1 hn2
              refine (named_calls s4 r0 w6).mono ?_
              rintro e w7 ⟨rfl, hb7⟩
              have HX7 := Aside0.mk ((hb7.block _ (blk_lt HX6.out)).trans HX6.out)
              have HA7 := Aside0.mk ((hb7.block _ (blk_lt HA6.out)).trans HA6.out)
              have HB7 := Aside0.mk (HB6.out.trans (hb7.mono HB6.out.size))
              clear hb7 HX6 HA6 HB6
              obtain ⟨q7, hq7⟩ : ∃ q7, q7 = (namedB s4 r0) := ⟨_, rfl⟩
              have HQ := Aside0.mk hq7
              rw [← hq7]
              clear hq7
              cases q7
              · go_wp2
                go_ret
                exact ⟨by rw [HM.out, ← HQ.out]; simp, HB7.out⟩
              · have HM2 := Aside0.mk (HM.out.trans (and_peel _ HQ.out))
                clear HM HQ
                have HM := HM2
                clear HM2
                have hn0 := blk_cell HX7.out 5
                have hn1 := blk_cell HA7.out 1
                go_wp2_with fail
                clear hn0 hn1
                refine (named_calls s5 r1 w7).mono ?_
                rintro e w8 ⟨rfl, hb8⟩
                have HX8 := Aside0.mk ((hb8.block _ (blk_lt HX7.out)).trans HX7.out)
                have HA8 := Aside0.mk ((hb8.block _ (blk_lt HA7.out)).trans HA7.out)
                have HB8 := Aside0.mk (HB7.out.trans (hb8.mono HB7.out.size))
                clear hb8 HX7 HA7 HB7
                obtain ⟨q8, hq8⟩ : ∃ q8, q8 = (namedB s5 r1) := ⟨_, rfl⟩
                have HQ := Aside0.mk hq8
                rw [← hq8]
                clear hq8
                cases q8
                · go_wp2
                  go_ret
                  exact ⟨by rw [HM.out, ← HQ.out]; simp, HB8.out⟩
                · have HM2 := Aside0.mk (HM.out.trans (and_peel _ HQ.out))
                  clear HM HQ
                  have HM := HM2
                  clear HM2
                  have hn0 := blk_cell HX8.out 7
                  have hn1 := blk_cell HA8.out 2
                  go_wp2_with fail
                  clear hn0 hn1
                  refine (named_calls s7 r2 w8).mono ?_
                  rintro e w9 ⟨rfl, hb9⟩
                  have HBn := Aside0.mk (HB8.out.trans (hb9.mono HB8.out.size))
                  clear hb9
                  go_wp2
                  go_ret
                  exact ⟨by rw [HM.out]; first | rfl | simp, HBn.out⟩
            · skip
              go_wp2_with fail
              clear hn0 hn1 hn2
              refine (named_calls s4 r0 w6).mono ?_
              rintro e w7 ⟨rfl, hb7⟩
              have HX7 := Aside0.mk ((hb7.block _ (blk_lt HX6.out)).trans HX6.out)
              have HA7 := Aside0.mk ((hb7.block _ (blk_lt HA6.out)).trans HA6.out)
              have HB7 := Aside0.mk (HB6.out.trans (hb7.mono HB6.out.size))
              clear hb7 HX6 HA6 HB6
              obtain ⟨q7, hq7⟩ : ∃ q7, q7 = (namedB s4 r0) := ⟨_, rfl⟩
              have HQ := Aside0.mk hq7
              rw [← hq7]
              clear hq7
              cases q7
              · go_wp2
                go_ret
                exact ⟨by rw [HM.out, ← HQ.out]; simp, HB7.out⟩
              · have HM2 := Aside0.mk (HM.out.trans (and_peel _ HQ.out))
                clear HM HQ
                have HM := HM2
                clear HM2
                have hn0 := blk_cell HX7.out 5
                have hn1 := blk_cell HA7.out 1
                go_wp2_with fail
                clear hn0 hn1
                refine (named_calls s5 r1 w7).mono ?_
                rintro e w8 ⟨rfl, hb8⟩
                have HX8 := Aside0.mk ((hb8.block _ (blk_lt HX7.out)).trans HX7.out)
                have HA8 := Aside0.mk ((hb8.block _ (blk_lt HA7.out)).trans HA7.out)
                have HB8 := Aside0.mk (HB7.out.trans (hb8.mono HB7.out.size))
                clear hb8 HX7 HA7 HB7
                obtain ⟨q8, hq8⟩ : ∃ q8, q8 = (namedB s5 r1) := ⟨_, rfl⟩
                have HQ := Aside0.mk hq8
                rw [← hq8]
                clear hq8
                cases q8
                · go_wp2
                  go_ret
                  exact ⟨by rw [HM.out, ← HQ.out]; simp, HB8.out⟩
                · have HM2 := Aside0.mk (HM.out.trans (and_peel _ HQ.out))
                  clear HM HQ
                  have HM := HM2
                  clear HM2
                  have hn0 := blk_cell HX8.out 7
                  have hm9 : w8.cell? ⟨0, 0, none⟩ = some (.int .i64 m) := (HB8.out.cell (World.block_lt_of_cell? w _ HMm.out)).trans HMm.out
                  have HM9 := Aside0.mk hm9
                  clear hm9
                  go_wp2_with fail
                  clear hn0
                  refine (goods_calls s7 m w8 HS.out HM9.out).mono ?_
                  rintro e w9 ⟨rfl, hb9⟩
                  have HBn := Aside0.mk (HB8.out.trans (hb9.mono HB8.out.size))
                  clear hb9
                  go_wp2
                  go_ret
                  exact ⟨by rw [HM.out]; first | rfl | simp, HBn.out⟩
end Go.Proofs.YtmmfoeckggpgdaaGreatDoor
set_option linter.unusedSimpArgs false
set_option linter.unusedVariables false
namespace Go.Proofs.YtmmfoeckggpgdaaGreatDoor
open Go.RowKit Go.Lib Go.Maps Go.Proofs.YtmmfoeckggpgdaaGreatDoorW.PrintWords

def evsC (l : List Ev) : List Value := l.flatMap evC
theorem evsC_cons (e : Ev) (l : List Ev) : evsC (e :: l) = evC e ++ evsC l := rfl
theorem evsC_append (a b : List Ev) : evsC (a ++ b) = evsC a ++ evsC b := List.flatMap_append
theorem evC_len (e : Ev) : (evC e).length = 8 := rfl
theorem evsC_len : ∀ l : List Ev, (evsC l).length = l.length * 8
  | [] => rfl
  | e :: l => by rw [evsC_cons, List.length_append, evC_len, evsC_len l, List.length_cons]; omega
theorem evsC_one {l : List Ev} : ∀ u ∈ evsC l, u.oneCell' = true := by
  intro u hu
  obtain ⟨e, _, he⟩ := List.mem_flatMap.1 hu
  simp [evC] at he
  rcases he with rfl | rfl | rfl | rfl | rfl | rfl | rfl | rfl <;> rfl
theorem evsC_get : ∀ (l : List Ev) (j : Nat) (h : j < l.length) (i : Nat) (hi : i < 8), (evsC l)[j * 8 + i]? = (evC l[j])[i]?
  | e :: l, 0, _, i, hi => by rw [evsC_cons, Nat.zero_mul, Nat.zero_add, List.getElem?_append_left (by rw [evC_len]; omega)]; rfl
  | e :: l, j + 1, h, i, hi => by
    have ih := evsC_get l j (by simpa using h) i hi
    rw [evsC_cons, List.getElem?_append_right (by rw [evC_len]; omega), evC_len, show (j + 1) * 8 + i - 8 = j * 8 + i by omega]
    exact ih
theorem evsC_take (A B : List Ev) : (evsC (A ++ B)).take (A.length * 8) = evsC A := by
  rw [evsC_append]; exact List.take_left' (evsC_len A)
theorem evsC_drop (A B : List Ev) : (evsC (A ++ B)).drop (A.length * 8) = evsC B := by
  rw [evsC_append]; exact List.drop_left' (evsC_len A)
/-- the eight cells of an event -/
structure EvRd (w : World) (b o : Nat) (e : Ev) : Prop where
  c0 : w.cell? ⟨b, o, none⟩ = some (.string e.source)
  c1 : w.cell? ⟨b, o + 1, none⟩ = some (.int .i64 e.number)
  c2 : w.cell? ⟨b, o + 2, none⟩ = some (.int .i64 e.at_)
  c3 : w.cell? ⟨b, o + 3, none⟩ = some (.int .i64 e.kind)
  c4 : w.cell? ⟨b, o + 4, none⟩ = some (.string e.person)
  c5 : w.cell? ⟨b, o + 5, none⟩ = some (.string e.item)
  c6 : w.cell? ⟨b, o + 6, none⟩ = some (.int .i64 e.value)
  c7 : w.cell? ⟨b, o + 7, none⟩ = some (.string e.text)
/-- a row of events of one's own -/
def EvAt (w : World) (base : Nat) (v : Value) (l : List Ev) : Prop := w.ownsRow base 28 8 v l.length (evsC l)
theorem EvAt.form {w : World} {base : Nat} {v : Value} {l : List Ev} (h : EvAt w base v l) : ∃ A c, v = .slice A l.length c ∧ l.length ≤ c ∧ c ≤ maxLen ∧ (0 < l.length → ∃ g, A = some ⟨g, 0, none⟩ ∧ g < w.heap.size ∧ base ≤ g ∧ (∀ j, (hj : j < l.length) → EvRd w g (j * 8) l[j]) ∧ ∀ o, w.frozen? ⟨g, o, none⟩ = false) := by
  rcases h.2 with ⟨rfl, h0⟩ | ⟨g, c, cur, rfl, hb, hg, hn, hm, hz, ht⟩
  · exact ⟨none, 0, by rw [h0], by omega, by unfold maxLen; omega, fun h => by omega⟩
  · refine ⟨some ⟨g, 0, none⟩, c, rfl, hn, hm, fun _ => ⟨g, rfl, blk_lt hg, hb, fun j hj => ?_, fun o => blk_frozen hg _⟩⟩
    have hr : ∀ i, i < 8 → w.cell? ⟨g, j * 8 + i, none⟩ = (evC l[j])[i]? := fun i hi => by
      have h1 := evsC_get l j hj i hi
      rw [← ht, List.getElem?_take, if_pos (by omega)] at h1
      rw [blk_cell hg]
      simpa using h1
    exact ⟨hr 0 (by omega), hr 1 (by omega), hr 2 (by omega), hr 3 (by omega), hr 4 (by omega), hr 5 (by omega), hr 6 (by omega), hr 7 (by omega)⟩
theorem EvAt.below {w W : World} {base : Nat} {v : Value} {l : List Ev} (h : EvAt w base v l) (hb : Below w.heap.size w W) : EvAt W base v l := pw_own_below h hb
theorem EvAt.fr {w W : World} {base : Nat} {v : Value} {l : List Ev} {S : Nat → Prop} (h : EvAt w base v l) (hf : Fr S w W) (hs : ∀ k, v.ownBlock = some k → ¬ S k) : EvAt W base v l := owns_fr h hf hs

/-! ### Compare -/
def cmpI (x y : Int) : Int := if x < y then -1 else if x > y then 1 else 0
def cmpT (x y : ByteArray) : Int := if Op.bytesLess x.toList y.toList = true then -1 else if Op.bytesLess y.toList x.toList = true then 1 else 0
def cmpB (a b : Ev) : Int := if cmpI a.at_ b.at_ ≠ 0 then cmpI a.at_ b.at_ else if cmpT a.source b.source ≠ 0 then cmpT a.source b.source else cmpI a.number b.number
theorem cmpI_f (x y : Int) : PC.cmp_Compare_int.f x y = some (cmpI x y) := by
  unfold PC.cmp_Compare_int.f PC.cmp_isNaN_int.f cmpI
  simp
  repeat' split
  all_goals rfl
theorem cmpT_f (x y : ByteArray) : PC.cmp_Compare_string.f x y = some (cmpT x y) := by
  unfold PC.cmp_Compare_string.f PC.cmp_isNaN_string.f cmpT
  simp
  repeat' split
  all_goals rfl
theorem or_f (x y z : Int) : PC.cmp_Or_int.f 4 [x, y, z] = some (if x ≠ 0 then x else if y ≠ 0 then y else z) := by
  unfold PC.cmp_Or_int.f
  by_cases hx : x = 0
  · subst hx
    by_cases hy : y = 0
    · subst hy
      by_cases hz : z = 0
      · subst hz; simp [PC.cmp_Or_int.l0, rd, wrap64, IntKind.wrap]
      · simp [PC.cmp_Or_int.l0, rd, wrap64, IntKind.wrap, hz]
    · simp [PC.cmp_Or_int.l0, rd, wrap64, IntKind.wrap, hy]
  · simp [PC.cmp_Or_int.l0, rd, hx]
theorem cmp_f (a b : Ev) : PC.event_Compare.f 4 a.source a.number a.at_ a.kind a.person a.item a.value a.text b.source b.number b.at_ b.kind b.person b.item b.value b.text = some (cmpB a b) := by
  unfold PC.event_Compare.f
  rw [cmpI_f, cmpT_f, cmpI_f]
  simp only [Option.bind_some, or_f]
  rfl
theorem cmp_calls (a b : Ev) (w : World) : Calls Tryz.prog 103 #[evV a, evV b] w fun e w' => e = .returned (.int .i64 (cmpB a b)) ∧ Below w.heap.size w w' :=
  PC.event_Compare.calls 4 _ _ _ _ _ _ _ _ _ _ _ _ _ _ _ _ _ w (cmp_f a b)
/-! ### Same -/
def sameB (a b : Ev) : Bool := (a.source.toList == b.source.toList) && (a.number == b.number)
theorem eSame_calls (a b : Ev) (w : World) : Calls Tryz.prog 55 #[evV a, evV b] w fun e w' => e = .returned (.bool (sameB a b)) ∧ Below w.heap.size w w' := by
  obtain ⟨s0, s1, s2, s3, s4, s5, s6, s7⟩ := a
  obtain ⟨t0, t1, t2, t3, t4, t5, t6, t7⟩ := b
  have HB : Aside0 (∀ o o', Below w.heap.size w ((w.alloc o).alloc o')) := ⟨fun o o' => below_alloc (below_alloc (Below.refl _ _) o) o'⟩
  unfold evV evC
  obtain ⟨q, hq⟩ : ∃ q, q = (s0.toList == t0.toList) := ⟨_, rfl⟩
  have HQ : Aside0 (sameB ⟨s0, s1, s2, s3, s4, s5, s6, s7⟩ ⟨t0, t1, t2, t3, t4, t5, t6, t7⟩ = (q && (s1 == t1))) := ⟨by rw [hq]; rfl⟩
  have hq' := hq.symm
  clear hq
  go_enter Tryz.func55, Tryz.ntmps55
  cases q
  · go_wp2
    go_ret
    exact ⟨by rw [HQ.out]; rfl, by first | exact HB.out _ _ | exact pw_below_drewN (HB.out _ _) _⟩
  · go_wp2
    go_ret
    exact ⟨by rw [HQ.out]; rfl, by first | exact HB.out _ _ | exact pw_below_drewN (HB.out _ _) _⟩
theorem EvRd.below {w W : World} {b o : Nat} {x : Ev} (h : EvRd w b o x) (hb : Below w.heap.size w W) : EvRd W b o x := ⟨pw_cell_below hb h.c0, pw_cell_below hb h.c1, pw_cell_below hb h.c2, pw_cell_below hb h.c3, pw_cell_below hb h.c4, pw_cell_below hb h.c5, pw_cell_below hb h.c6, pw_cell_below hb h.c7⟩
theorem lateF_calls (a b : Ev) (g : Nat) (w : World) (h : EvRd w g 0 b) : Calls Tryz.prog 54 #[evV a, .pointer (some ⟨g, 0, none⟩)] w fun e w' => e = .returned (.bool (sameB b a)) ∧ Below w.heap.size w w' := by
  have hA : ∀ o, EvRd (w.alloc o) g 0 b := fun o => h.below (below_alloc (Below.refl _ _) o)
  have c0 := fun o => (hA o).c0
  have c1 := fun o => (hA o).c1
  have c2 := fun o => (hA o).c2
  have c3 := fun o => (hA o).c3
  have c4 := fun o => (hA o).c4
  have c5 := fun o => (hA o).c5
  have c6 := fun o => (hA o).c6
  have c7 := fun o => (hA o).c7
  clear hA h
  have hS := fun W => eSame_calls b a W
  obtain ⟨q, hq⟩ : ∃ q, q = sameB b a := ⟨_, rfl⟩
  rw [← hq] at hS ⊢
  have HS := Aside0.mk hS
  clear hS hq
  obtain ⟨s0, s1, s2, s3, s4, s5, s6, s7⟩ := a
  obtain ⟨t0, t1, t2, t3, t4, t5, t6, t7⟩ := b
  have HB : Aside0 (∀ o W, Below (w.alloc o).heap.size (w.alloc o) W → Below w.heap.size w W) := ⟨fun o W hW => (below_alloc (Below.refl _ _) o).trans (hW.mono (by show w.heap.size ≤ (w.heap.push _).size; rw [Array.size_push]; omega))⟩
  unfold evV evC at *
  simp only [Nat.zero_add] at c0 c1 c2 c3 c4 c5 c6 c7
  go_enter Tryz.func54, Tryz.ntmps54
  go_wp2_with fail
  refine (HS.out _).mono ?_
  rintro e w1 ⟨rfl, hb1⟩
  have HB1 := Aside0.mk (HB.out _ _ hb1)
  clear hb1
  go_wp2
  go_ret
  exact ⟨rfl, HB1.out⟩
/-! ### IndexFunc, ContainsFunc -/
def idxP (p : Ev → Bool) : List Ev → Int → Int
  | [], _ => -1
  | x :: r, k => if p x then k else idxP p r (k + 1)
theorem idxP_any (p : Ev → Bool) : ∀ (l : List Ev) (k : Int), 0 ≤ k → decide (0 ≤ idxP p l k) = l.any p
  | [], k, _ => rfl
  | x :: r, k, hk => by
    unfold idxP
    rw [List.any_cons]
    cases p x
    · simpa using idxP_any p r (k + 1) (by omega)
    · simpa using hk
set_option maxRecDepth 100000 in
set_option maxHeartbeats 1000000 in
theorem index_calls (F : Nat) (P : Value) (p : Ev → Bool) (base : Nat) (v : Value) (l : List Ev) (w : World) (heg : ∀ args w, (callFunc F args).run Tryz.prog w = .ok (.enter F args) w) (hl : EvAt w base v l)
    (hp : ∀ W x, Below w.heap.size w W → Calls Tryz.prog F #[evV x, P] W fun e w' => e = .returned (.bool (p x)) ∧ Below W.heap.size W w') :
    Calls Tryz.prog 100 #[v, .func (.func F) #[] #[P]] w fun e w' => e = .returned (.int .i64 (idxP p l 0)) ∧ Below w.heap.size w w' := by
  obtain ⟨A, c, hv, hnc, hcm, hc⟩ := hl.form
  subst hv
  have hc63 : l.length ≤ 9223372036854775807 := by unfold maxLen at hcm; omega
  have HL := Aside0.mk hl
  have HP := Aside0.mk hp
  have HC := Aside0.mk hc
  clear hl hp hc hcm hnc
  go_enter Tryz.func100, Tryz.ntmps100
  go_wp2_with fail
  go_loopw [8] (fun i wr => ∃ k : Nat, i = .int .i64 k ∧ k ≤ l.length ∧ Aside0 (idxP p (l.drop k) k = idxP p l 0) ∧ Aside0 (Below w.heap.size w wr)) (fun i _ => l.length - (intOf i).toNat)
  case atStart => exact ⟨0, rfl, Nat.zero_le _, ⟨rfl⟩, ⟨Below.refl _ _⟩⟩
  case round =>
    obtain ⟨k, rfl, hk, HI, HB⟩ := hrel
    by_cases hlt : k < l.length
    · obtain ⟨g, rfl, hg, hbg, hcell, hfz⟩ := HC.out (by omega)
      obtain ⟨c0, c1, c2, c3, c4, c5, c6, c7⟩ := (hcell k hlt).below HB.out
      have HD : Aside0 (l.drop k = l[k] :: l.drop (k + 1)) := ⟨List.drop_eq_getElem_cons hlt⟩
      obtain ⟨x, hx⟩ : ∃ x, x = l[k] := ⟨_, rfl⟩
      rw [← hx] at c0 c1 c2 c3 c4 c5 c6 c7 HD
      clear hx hcell hfz hg hbg
      have HX := Aside0.mk (HP.out wr x HB.out)
      obtain ⟨s0, s1, s2, s3, s4, s5, s6, s7⟩ := x
      simp only at c0 c1 c2 c3 c4 c5 c6 c7
      go_wp2_with fail
      refine HX.out.mono ?_
      rintro e w4 ⟨rfl, hb4⟩
      have HB4 := Aside0.mk (HB.out.trans (hb4.mono HB.out.size))
      obtain ⟨q, hq⟩ : ∃ q, q = p ⟨s0, s1, s2, s3, s4, s5, s6, s7⟩ := ⟨_, rfl⟩
      rw [← hq]
      have HI4 : Aside0 (idxP p l 0 = if q then (k : Int) else idxP p (l.drop (k + 1)) (k + 1)) := ⟨by rw [← HI.out, HD.out, idxP, ← hq]⟩
      clear hb4 hq c0 c1 c2 c3 c4 c5 c6 c7
      cases q
      · have HI5 : Aside0 (idxP p (l.drop (k + 1)) ((k : Int) + 1) = idxP p l 0) := ⟨HI4.out.symm⟩
        go_wp2
        go_roundw
        case rel => exact ⟨k + 1, by go_num, hlt, HI5, HB4⟩
        case measure => simp [intOf]; omega
      · go_wp2
        go_ret
        exact ⟨by rw [HI4.out]; rfl, HB4.out⟩
    · obtain rfl : k = l.length := by omega
      have HI4 : Aside0 (idxP p l 0 = -1) := ⟨by rw [← HI.out, List.drop_length]; rfl⟩
      go_wp2
      go_ret
      exact ⟨by rw [HI4.out]; rfl, HB.out⟩
theorem contains_calls (F : Nat) (P : Value) (p : Ev → Bool) (base : Nat) (v : Value) (l : List Ev) (w : World) (heg : ∀ args w, (callFunc F args).run Tryz.prog w = .ok (.enter F args) w) (hl : EvAt w base v l)
    (hp : ∀ W x, Below w.heap.size w W → Calls Tryz.prog F #[evV x, P] W fun e w' => e = .returned (.bool (p x)) ∧ Below W.heap.size W w') :
    Calls Tryz.prog 53 #[v, .func (.func F) #[] #[P]] w fun e w' => e = .returned (.bool (l.any p)) ∧ Below w.heap.size w w' := by
  have HX := Aside0.mk (index_calls F P p base v l w heg hl hp)
  have HY := Aside0.mk (idxP_any p l 0 (Int.le_refl _))
  clear hl hp heg
  obtain ⟨i, hi⟩ : ∃ i, i = idxP p l 0 := ⟨_, rfl⟩
  rw [← hi] at HX HY
  clear hi
  go_enter Tryz.func53, Tryz.ntmps53
  go_wp2_with fail
  refine HX.out.mono ?_
  rintro e w1 ⟨rfl, hb⟩
  have HB := Aside0.mk hb
  clear hb
  go_wp2
  go_ret
  exact ⟨by rw [← HY.out]; simp, HB.out⟩
end Go.Proofs.YtmmfoeckggpgdaaGreatDoor
set_option linter.unusedSimpArgs false
set_option linter.unusedVariables false
namespace Go.Proofs.YtmmfoeckggpgdaaGreatDoor
open Go.RowKit Go.Lib Go.Maps Go.Proofs.YtmmfoeckggpgdaaGreatDoorW.PrintWords Go.Proofs.YtmmfoeckggpgdaaGreatDoorW.PrintLast

/-- how many stand ahead -/
def posW (p : Ev → Bool) (l : List Ev) : Nat := (l.takeWhile p).length
theorem posW_of {p : Ev → Bool} : ∀ {l : List Ev} {n : Nat}, n ≤ l.length → (∀ t, (ht : t < l.length) → t < n → p l[t] = true) → (∀ t, (ht : t < l.length) → n ≤ t → p l[t] = false) → n = posW p l
  | [], n, hn, _, _ => by simp at hn; subst hn; rfl
  | x :: l, 0, _, _, h2 => by
    have h := h2 0 (by simp) (Nat.le_refl _)
    have h' : p x = false := h
    simp [posW, List.takeWhile_cons, h']
  | x :: l, n + 1, hn, h1, h2 => by
    have h : p x = true := h1 0 (by simp) (by omega)
    have ih := posW_of (p := p) (l := l) (n := n) (by simpa using hn) (fun t ht htn => h1 (t + 1) (by simpa using ht) (by omega)) (fun t ht htn => h2 (t + 1) (by simpa using ht) (by omega))
    unfold posW at ih ⊢
    rw [List.takeWhile_cons, if_pos h, List.length_cons, ← ih]
def lessE (e x : Ev) : Bool := decide (cmpB x e < 0)
def foundE (e : Ev) (l : List Ev) : Bool := ((l[posW (lessE e) l]?).map fun x => cmpB x e == 0).getD false
/-- what stands behind one that isn't ahead isn't ahead -/
def Parted (p : Ev → Bool) (l : List Ev) : Prop := ∀ i j, (hi : i < l.length) → (hj : j < l.length) → i ≤ j → p l[j] = true → p l[i] = true

theorem goesT_ {P : Program} {ops : Array Oper} {Q : Exit → Act → World → Prop} {oi : Oper} {N : Option Tmp} {a : Act} {w : World} {K : Act → World → Prop} {f : FuncId} {fn : Func} {az : Array Operand} {ts : Array TypeId} {t : Tmp} (hf : P.funcs[f]? = some fn) (hname : (fn.name == "runtime.NumGoroutine") = false) (hb : fn.body.isSome = true) (args : Array Value)
    (hw : Region.wanted oi (yielded ops a.tmps) = true) (hN : oi.dst = N) (hop : oi.op = .call { callee := .value (.tmp t), args := az, argTypes := ts }) (ht : a.eval (.tmp t) = .func (.func f) #[] #[]) (hargs : az.map a.eval = args)
    (h : Calls P f args w fun e w' => ∃ v, e = .returned v ∧ K (a.put N v) w') : if Region.wanted oi (yielded ops a.tmps) = true then Oper.wp P oi a w K Q else K (a.put N undef) w := by
  refine call_ f args hw hN ?_ h
  have he := enters_ hf hname hb args w
  unfold execOp
  simp [hop, resolve, Deferred.ofValue, invoke, ht, hargs, he]
theorem boxed (w : World) (e : Ev) : EvRd (w.alloc (.cells (evC e).toArray 28)) w.heap.size 0 e := by
  have hb : (w.alloc (.cells (evC e).toArray 28)).heap[w.heap.size]? = some (.cells (evC e).toArray 28 (0, 0)) := Array.getElem?_push_size
  exact ⟨blk_cell hb 0, blk_cell hb 1, blk_cell hb 2, blk_cell hb 3, blk_cell hb 4, blk_cell hb 5, blk_cell hb 6, blk_cell hb 7⟩
-- TAB
def regB_8.T : Bool × List (List Nat × List Nat) := (true, [([], []), ([], []), ([], []), ([1, 2], [1, 2]), ([3], [3]), ([4], [4]), ([4], [4]), ([4], [4]), ([6, 7, 4], [4, 6, 7]), ([8, 4], [4, 8]), ([4], [4]), ([5, 9, 10, 4, 4], [4, 5, 9, 10]), ([11, 4], [4, 11]), ([4, 12], [4, 12]), ([0, 11, 0], [0]), ([13, 14, 0, 1, 2, 3, 4, 5, 6, 7, 8, 9, 10, 11, 12, 13, 14], [13])])
def regB_8.B : List Nat := [0, 0, 0, 6, 14, 30, 30, 30, 222, 478, 30, 2046, 4094, 8190, 4095, 32767]
theorem regB_8.tab : rtab .any (opsOf Tryz.f102 8) = regB_8.T := by kernel_rfl
theorem regB_8.bits : waitsOk regB_8.T.2 regB_8.B = true := by kernel_rfl
-- END
set_option maxRecDepth 100000 in
set_option maxHeartbeats 4000000 in
theorem bsearch_calls (e : Ev) (base : Nat) (v : Value) (l : List Ev) (w : World) (hl : EvAt w base v l) (hp : Parted (lessE e) l) (hbig : l.length ≤ 4194304) :
    Calls Tryz.prog 102 #[v, evV e, .func (.func 103) #[] #[]] w fun r w' => r = .returned (.tuple #[.int .i64 (posW (lessE e) l), .bool (foundE e l)]) ∧ Below w.heap.size w w' := by
  obtain ⟨A, c, hv, hnc, hcm, hc⟩ := hl.form
  subst hv
  have HC := Aside0.mk hc
  have HP := Aside0.mk hp
  have HCmp := Aside0.mk (fun x W => cmp_calls x e W)
  obtain ⟨wA, hwA⟩ : ∃ wA, wA = w.alloc (.cells (evC e).toArray 28) := ⟨_, rfl⟩
  have HBox : Aside0 (EvRd wA w.heap.size 0 e) := ⟨by rw [hwA]; exact boxed w e⟩
  have HBA : Aside0 (∀ W, Below wA.heap.size wA W → Below w.heap.size w W) := ⟨fun W h => (show Below w.heap.size w wA by rw [hwA]; exact below_alloc (Below.refl _ _) _).trans (h.mono (by rw [hwA]; show w.heap.size ≤ (w.heap.push _).size; rw [Array.size_push]; omega))⟩
  have HCA : Aside0 (∀ W, Below wA.heap.size wA W → Below w.heap.size w W) := HBA
  have HWA := Aside0.mk hwA
  clear hl hp hc hcm hnc hwA
  unfold evV
  go_enter Tryz.func102, Tryz.ntmps102
  go_wp2_with fail
  rw [show (w.alloc (.cells (evC e).toArray 28)) = wA from HWA.out.symm]
  go_loopw [9, 10] (fun s5 s6 wr => ∃ lo hi : Nat, s5 = .int .i64 lo ∧ s6 = .int .i64 hi ∧ lo ≤ hi ∧ hi ≤ l.length ∧ Aside0 (∀ t, (ht : t < l.length) → t < lo → lessE e l[t] = true) ∧ Aside0 (∀ t, (ht : t < l.length) → hi ≤ t → lessE e l[t] = false) ∧ Aside0 (Below wA.heap.size wA wr)) (fun s5 s6 _ => (intOf s6 - intOf s5).toNat)
  case atStart => exact ⟨0, l.length, rfl, rfl, Nat.zero_le _, Nat.le_refl _, ⟨fun t _ h => by omega⟩, ⟨fun t h1 h2 => by omega⟩, ⟨Below.refl _ _⟩⟩
  case round =>
    obtain ⟨lo, hi, rfl, rfl, hlh, hhn, HL, HH, HB⟩ := hrel
    by_cases hlt : lo < hi
    · go_wp2_with fail
      obtain ⟨mid, hmid⟩ : ∃ mid : Nat, ((lo : Int) + (hi : Int)) / 2 = (mid : Int) := ⟨(lo + hi) / 2, by omega⟩
      rw [hmid]
      have hm1 : lo ≤ mid := by omega
      have hm2 : mid < hi := by omega
      have hml : mid < l.length := by omega
      have hmn : (mid : Int).toNat = mid := Int.toNat_natCast mid
      have hm0 : (0 : Int) ≤ (mid : Int) := Int.natCast_nonneg mid
      have hml' : (mid : Int) < (l.length : Int) := Int.ofNat_lt.2 hml
      clear hmid
      obtain ⟨g, hA, hg, hbg, hcell, hfz⟩ := HC.out (by omega)
      subst hA
      have hW := HWA.out
      obtain ⟨c0, c1, c2, c3, c4, c5, c6, c7⟩ := (hcell mid hml).below (HBA.out wr HB.out)
      obtain ⟨d0, d1, d2, d3, d4, d5, d6, d7⟩ := HBox.out.below HB.out
      have HX : Aside0 (lessE e l[mid] = decide (cmpB l[mid] e < 0)) := ⟨rfl⟩
      have HMid : Aside0 (∀ t, (ht : t < l.length) → (t ≤ mid → lessE e l[mid] = true → lessE e l[t] = true) ∧ (mid ≤ t → lessE e l[mid] = false → lessE e l[t] = false)) := ⟨fun t ht => ⟨fun h1 h2 => HP.out t mid ht hml h1 h2, fun h1 h2 => by
        cases h3 : lessE e l[t]
        · rfl
        · rw [HP.out mid t hml ht h1 h3] at h2; cases h2⟩⟩
      have hcm := HCmp.out l[mid] wr.drew
      obtain ⟨x, hx⟩ : ∃ x, x = l[mid] := ⟨_, rfl⟩
      rw [← hx] at c0 c1 c2 c3 c4 c5 c6 c7 HX HMid hcm
      have HCM := Aside0.mk hcm
      clear hx hcell hfz hg hbg hcm hW
      obtain ⟨s0, s1, s2, s3, s4, s5, s6, s7⟩ := x
      obtain ⟨t0, t1, t2, t3, t4, t5, t6, t7⟩ := e
      simp only [Nat.zero_add] at c0 c1 c2 c3 c4 c5 c6 c7 d0 d1 d2 d3 d4 d5 d6 d7
      go_still_tail 6, (by kernel_rfl)
      change wpList _ _ _ _ _ wr.drew
      go_wp2_with fail
      refine HCM.out.mono ?_
      rintro e w4 ⟨rfl, hb4⟩
      have HB4 := Aside0.mk (HB.out.drew.trans (hb4.mono HB.out.drew.size))
      clear hb4 c0 c1 c2 c3 c4 c5 c6 c7 d0 d1 d2 d3 d4 d5 d6 d7 hmn hm0 hml'
      obtain ⟨q, hq⟩ : ∃ q, q = cmpB ⟨s0, s1, s2, s3, s4, s5, s6, s7⟩ ⟨t0, t1, t2, t3, t4, t5, t6, t7⟩ := ⟨_, rfl⟩
      rw [← hq] at HX ⊢
      clear hq
      by_cases hneg : q < 0
      · have HL2 : Aside0 (∀ t, (ht : t < l.length) → t < mid + 1 → lessE ⟨t0, t1, t2, t3, t4, t5, t6, t7⟩ l[t] = true) := ⟨fun t ht h => (HMid.out t ht).1 (by omega) (by rw [HX.out]; exact decide_eq_true hneg)⟩
        have HH' := HH
        clear HX HMid HP HCM HC HCmp
        go_wp2
        go_roundw
        case rel => exact ⟨mid + 1, hi, by go_num, rfl, by omega, hhn, HL2, HH', HB4⟩
        case measure => simp [intOf]; omega
      · have HH2 : Aside0 (∀ t, (ht : t < l.length) → mid ≤ t → lessE ⟨t0, t1, t2, t3, t4, t5, t6, t7⟩ l[t] = false) := ⟨fun t ht h => (HMid.out t ht).2 h (by rw [HX.out]; exact decide_eq_false hneg)⟩
        have HL' := HL
        clear HX HMid HP HCM HC HCmp
        go_wp2
        go_roundw
        case rel => exact ⟨lo, mid, rfl, rfl, hm1, by omega, HL', HH2, HB4⟩
        case measure => simp [intOf]; omega
    · obtain rfl : lo = hi := by omega
      have HPos : Aside0 (lo = posW (lessE e) l) := ⟨posW_of hhn HL.out HH.out⟩
      by_cases hlt2 : lo < l.length
      · have hmn : (lo : Int).toNat = lo := Int.toNat_natCast lo
        have hm0 : (0 : Int) ≤ (lo : Int) := Int.natCast_nonneg lo
        have hml' : (lo : Int) < (l.length : Int) := Int.ofNat_lt.2 hlt2
        obtain ⟨g, hA, hg, hbg, hcell, hfz⟩ := HC.out (by omega)
        subst hA
        obtain ⟨c0, c1, c2, c3, c4, c5, c6, c7⟩ := (hcell lo hlt2).below (HBA.out wr HB.out)
        obtain ⟨d0, d1, d2, d3, d4, d5, d6, d7⟩ := HBox.out.below HB.out
        have HF : Aside0 (foundE e l = (cmpB l[lo] e == 0)) := ⟨by unfold foundE; rw [← HPos.out, List.getElem?_eq_getElem hlt2]; rfl⟩
        have hcm := HCmp.out l[lo] wr.drew
        obtain ⟨x, hx⟩ : ∃ x, x = l[lo] := ⟨_, rfl⟩
        rw [← hx] at c0 c1 c2 c3 c4 c5 c6 c7 HF hcm
        have HCM := Aside0.mk hcm
        clear hx hcell hfz hg hbg hcm
        obtain ⟨s0, s1, s2, s3, s4, s5, s6, s7⟩ := x
        obtain ⟨t0, t1, t2, t3, t4, t5, t6, t7⟩ := e
        simp only [Nat.zero_add] at c0 c1 c2 c3 c4 c5 c6 c7 d0 d1 d2 d3 d4 d5 d6 d7
        go_wp2_with fail
        -- WALK
        refine start_ (n := 16) (S := fun W => W.cell? ⟨g, lo * 8, none⟩ = some (.string s0) ∧ W.cell? ⟨g, lo * 8 + 1, none⟩ = some (.int .i64 s1) ∧ W.cell? ⟨g, lo * 8 + 2, none⟩ = some (.int .i64 s2) ∧ W.cell? ⟨g, lo * 8 + 3, none⟩ = some (.int .i64 s3) ∧ W.cell? ⟨g, lo * 8 + 4, none⟩ = some (.string s4) ∧ W.cell? ⟨g, lo * 8 + 5, none⟩ = some (.string s5) ∧ W.cell? ⟨g, lo * 8 + 6, none⟩ = some (.int .i64 s6) ∧ W.cell? ⟨g, lo * 8 + 7, none⟩ = some (.string s7) ∧ W.cell? ⟨w.heap.size, 0, none⟩ = some (.string t0) ∧ W.cell? ⟨w.heap.size, 1, none⟩ = some (.int .i64 t1) ∧ W.cell? ⟨w.heap.size, 2, none⟩ = some (.int .i64 t2) ∧ W.cell? ⟨w.heap.size, 3, none⟩ = some (.int .i64 t3) ∧ W.cell? ⟨w.heap.size, 4, none⟩ = some (.string t4) ∧ W.cell? ⟨w.heap.size, 5, none⟩ = some (.string t5) ∧ W.cell? ⟨w.heap.size, 6, none⟩ = some (.int .i64 t6) ∧ W.cell? ⟨w.heap.size, 7, none⟩ = some (.string t7)) (ds := [11]) #[false, false, false, false, false, false, false, false, false, false, false, false, false, false, false, false] (by kernel_rfl) rfl rfl ⟨c0, c1, c2, c3, c4, c5, c6, c7, d0, d1, d2, d3, d4, d5, d6, d7⟩ (fun hHeld => ?_)
        refine with_tabW regB_8.tab regB_8.bits (fun HT_ HW_ => ?_)
        refine pure_ (i := 0) (N := (some 35)) (v := ?_) (a' := ?_) #[true, false, false, false, false, false, false, false, false, false, false, false, false, false, false, false] rfl rfl (any_of HT_.out (by kernel_rfl)) (fun _ _ _ h => h) (Or.inl ⟨by rfl, ?_⟩) ?_ ?_
        rotate_left
        · intro w'
          go_simp
          with_reducible rfl
        rotate_left
        · simp only [Act.put, List.setIfInBounds_toArray, List.set_cons_zero, List.set_cons_succ, i64_w, i32_w]
          rfl
        refine pure_ (i := 1) (N := (some 36)) (v := ?_) (a' := ?_) #[true, true, false, false, false, false, false, false, false, false, false, false, false, false, false, false] rfl rfl (any_of HT_.out (by kernel_rfl)) (fun _ _ _ h => h) (Or.inl ⟨by rfl, ?_⟩) ?_ ?_
        rotate_left
        · intro w'
          go_simp
          with_reducible rfl
        rotate_left
        · simp only [Act.put, List.setIfInBounds_toArray, List.set_cons_zero, List.set_cons_succ, i64_w, i32_w]
          rfl
        refine pure_ (i := 2) (N := (some 37)) (v := ?_) (a' := ?_) #[true, true, true, false, false, false, false, false, false, false, false, false, false, false, false, false] rfl rfl (any_of HT_.out (by kernel_rfl)) (fun _ _ _ h => h) (Or.inl ⟨by rfl, ?_⟩) ?_ ?_
        rotate_left
        · intro w'
          go_simp
          with_reducible rfl
        rotate_left
        · simp only [Act.put, List.setIfInBounds_toArray, List.set_cons_zero, List.set_cons_succ, i64_w, i32_w]
          rfl
        refine pure_ (i := 3) (N := (some 38)) (v := ?_) (a' := ?_) #[true, true, true, true, false, false, false, false, false, false, false, false, false, false, false, false] rfl rfl (any_of HT_.out (by kernel_rfl)) (fun _ _ _ h => h) (Or.inl ⟨by rfl, ?_⟩) ?_ ?_
        rotate_left
        · intro w'
          go_simp
          with_reducible rfl
        rotate_left
        · simp only [Act.put, List.setIfInBounds_toArray, List.set_cons_zero, List.set_cons_succ, i64_w, i32_w]
          rfl
        refine pure_ (i := 4) (N := (some 39)) (v := ?_) (a' := ?_) #[true, true, true, true, true, false, false, false, false, false, false, false, false, false, false, false] rfl rfl (any_of HT_.out (by kernel_rfl)) (fun _ _ _ h => h) (Or.inl ⟨by rfl, ?_⟩) ?_ ?_
        rotate_left
        · intro w'
          go_simp
          with_reducible rfl
        rotate_left
        · simp only [Act.put, List.setIfInBounds_toArray, List.set_cons_zero, List.set_cons_succ, i64_w, i32_w]
          rfl
        refine pure_ (i := 5) (N := (some 40)) (v := ?_) (a' := ?_) #[true, true, true, true, true, true, false, false, false, false, false, false, false, false, false, false] rfl rfl (any_of HT_.out (by kernel_rfl)) (fun _ _ _ h => h) (Or.inl ⟨by rfl, ?_⟩) ?_ ?_
        rotate_left
        · intro w'
          go_simp
          with_reducible rfl
        rotate_left
        · simp only [Act.put, List.setIfInBounds_toArray, List.set_cons_zero, List.set_cons_succ, i64_w, i32_w]
          rfl
        refine pure_ (i := 6) (N := (some 41)) (v := ?_) (a' := ?_) #[true, true, true, true, true, true, true, false, false, false, false, false, false, false, false, false] rfl rfl (any_of HT_.out (by kernel_rfl)) (fun _ _ _ h => h) (Or.inl ⟨by rfl, ?_⟩) ?_ ?_
        rotate_left
        · intro w'
          go_simp
          with_reducible rfl
        rotate_left
        · simp only [Act.put, List.setIfInBounds_toArray, List.set_cons_zero, List.set_cons_succ, i64_w, i32_w]
          rfl
        refine pure_ (i := 7) (N := (some 42)) (v := ?_) (a' := ?_) #[true, true, true, true, true, true, true, true, false, false, false, false, false, false, false, false] rfl rfl (any_of HT_.out (by kernel_rfl)) (fun _ _ _ h => h) (Or.inl ⟨by rfl, ?_⟩) ?_ ?_
        rotate_left
        · intro w'
          go_simp
          with_reducible rfl
        rotate_left
        · simp only [Act.put, List.setIfInBounds_toArray, List.set_cons_zero, List.set_cons_succ, i64_w, i32_w]
          rfl
        refine pure_ (i := 8) (N := (some 43)) (v := ?_) (a' := ?_) #[true, true, true, true, true, true, true, true, true, false, false, false, false, false, false, false] rfl rfl (any_of HT_.out (by kernel_rfl)) (fun _ _ _ h => h) (Or.inl ⟨by rfl, ?_⟩) ?_ ?_
        rotate_left
        · intro w'
          go_simp
          with_reducible rfl
        rotate_left
        · simp only [Act.put, List.setIfInBounds_toArray, List.set_cons_zero, List.set_cons_succ, i64_w, i32_w]
          rfl
        refine take_ (i := 9) (N := (some 44)) (v := ?_) (a' := ?_) #[true, true, true, true, true, true, true, true, true, true, false, false, false, false, false, false] rfl rfl (take_ofW HT_.out HW_.out (by kernel_rfl)) (fun _ _ _ h => h) (Or.inl ⟨by rfl, ?_⟩) hHeld ?_ ?_
        rotate_left
        · rintro w' ⟨c0, c1, c2, c3, c4, c5, c6, c7, d0, d1, d2, d3, d4, d5, d6, d7⟩
          go_simp
          with_reducible rfl
        rotate_left
        · simp only [Act.put, List.setIfInBounds_toArray, List.set_cons_zero, List.set_cons_succ, i64_w, i32_w]
          rfl
        refine take_ (i := 10) (N := (some 45)) (v := ?_) (a' := ?_) #[true, true, true, true, true, true, true, true, true, true, true, false, false, false, false, false] rfl rfl (take_ofW HT_.out HW_.out (by kernel_rfl)) (fun _ _ _ h => h) (Or.inl ⟨by rfl, ?_⟩) hHeld ?_ ?_
        rotate_left
        · rintro w' ⟨c0, c1, c2, c3, c4, c5, c6, c7, d0, d1, d2, d3, d4, d5, d6, d7⟩
          go_simp
          with_reducible rfl
        rotate_left
        · simp only [Act.put, List.setIfInBounds_toArray, List.set_cons_zero, List.set_cons_succ, i64_w, i32_w]
          rfl
        refine last_ (i := 11) (N := (some 46)) #[true, true, true, true, true, true, true, true, true, true, true, true, false, false, false, false] rfl rfl (one_of HT_.out (by kernel_rfl)) (by decide) (fun K hK => ?_)
        refine goesT_ (f := 103) Tryz.func103 (by kernel_rfl) rfl #[evV ⟨s0, s1, s2, s3, s4, s5, s6, s7⟩, evV ⟨t0, t1, t2, t3, t4, t5, t6, t7⟩] (by rfl) rfl rfl (by rfl) (by (try simp only [List.map_toArray, List.map_cons, List.map_nil]); first | done | rfl) ?_
        refine HCM.out.mono ?_
        rintro e w4 ⟨rfl, hb4⟩
        refine ⟨_, rfl, ?_⟩
        have HB4 := Aside0.mk (HBA.out _ (HB.out.drew.trans (hb4.mono HB.out.drew.size)))
        obtain ⟨q, hq⟩ : ∃ q, q = cmpB ⟨s0, s1, s2, s3, s4, s5, s6, s7⟩ ⟨t0, t1, t2, t3, t4, t5, t6, t7⟩ := ⟨_, rfl⟩
        rw [← hq] at HF ⊢
        clear hb4 hq c0 c1 c2 c3 c4 c5 c6 c7 d0 d1 d2 d3 d4 d5 d6 d7 HCM HC HCmp HP
        refine hK.out _ _ ?_
        clear hK K
        refine norm_ (a' := ?_) ?_ ?_
        rotate_left
        · show Act.put _ (some 46) _ = _
          simp only [Act.put, List.setIfInBounds_toArray, List.set_cons_zero, List.set_cons_succ, i64_w, i32_w]
          rfl
        refine pure_ (i := 12) (N := (some 47)) (v := ?_) (a' := ?_) #[true, true, true, true, true, true, true, true, true, true, true, true, true, false, false, false] rfl rfl (any_of HT_.out (by kernel_rfl)) (fun _ _ _ h => h) (Or.inl ⟨by rfl, ?_⟩) ?_ ?_
        rotate_left
        · intro w'
          go_simp
          with_reducible rfl
        rotate_left
        · simp only [Act.put, List.setIfInBounds_toArray, List.set_cons_zero, List.set_cons_succ, i64_w, i32_w]
          rfl
        refine pure_ (i := 13) (N := (some 48)) (v := ?_) (a' := ?_) #[true, true, true, true, true, true, true, true, true, true, true, true, true, true, false, false] rfl rfl (any_of HT_.out (by kernel_rfl)) (fun _ _ _ h => h) (Or.inl ⟨by rfl, ?_⟩) ?_ ?_
        rotate_left
        · intro w'
          go_simp
          with_reducible rfl
        rotate_left
        · simp only [Act.put, List.setIfInBounds_toArray, List.set_cons_zero, List.set_cons_succ, i64_w, i32_w]
          rfl
        refine pure_ (i := 14) (N := (some 6)) (v := ?_) (a' := ?_) #[true, true, true, true, true, true, true, true, true, true, true, true, true, true, true, false] rfl rfl (any_of HT_.out (by kernel_rfl)) (fun _ _ _ h => h) (Or.inl ⟨by rfl, ?_⟩) ?_ ?_
        rotate_left
        · intro w'
          go_simp
          with_reducible rfl
        rotate_left
        · simp only [Act.put, List.setIfInBounds_toArray, List.set_cons_zero, List.set_cons_succ, i64_w, i32_w]
          rfl
        refine pure_ (i := 15) (N := (some 7)) (v := ?_) (a' := ?_) #[true, true, true, true, true, true, true, true, true, true, true, true, true, true, true, true] rfl rfl (any_of HT_.out (by kernel_rfl)) (fun _ _ _ h => h) (Or.inl ⟨by rfl, ?_⟩) ?_ ?_
        rotate_left
        · intro w'
          go_simp
          with_reducible rfl
        rotate_left
        · simp only [Act.put, List.setIfInBounds_toArray, List.set_cons_zero, List.set_cons_succ, i64_w, i32_w]
          rfl
        refine done_ (done_of HT_.out (by kernel_rfl)) ?_
        -- WEND
        go_wp2
        go_ret2
        exact ⟨by rw [HF.out, ← HPos.out]; rfl, HB4.out⟩
      · have hnl : ¬ ((lo : Int) < (l.length : Int)) := by omega
        have HF : Aside0 (foundE e l = false) := ⟨by unfold foundE; rw [← HPos.out, List.getElem?_eq_none (by omega)]; rfl⟩
        go_wp2_with fail
        go_quiet (fail)
        go_wp2
        go_ret2
        exact ⟨by rw [HF.out, ← HPos.out]; rfl, pw_below_drewN (HBA.out _ HB.out) _⟩
end Go.Proofs.YtmmfoeckggpgdaaGreatDoor
set_option linter.unusedSimpArgs false
set_option linter.unusedVariables false
namespace Go.Proofs.YtmmfoeckggpgdaaGreatDoor
open Go.RowKit Go.Lib Go.Maps Go.Proofs.YtmmfoeckggpgdaaGreatDoorW.PrintWords

/-- what a clone is -/
def ClonePost (l : List Ev) (w : World) (e : Ending) (W : World) : Prop := ∃ v', e = .returned v' ∧ EvAt W w.heap.size v' l ∧ Below w.heap.size w W
theorem own_none (w : World) (b : Nat) : w.ownsRow w.heap.size 28 8 (.slice none 0 0) 0 [] := ⟨rfl, .inl ⟨rfl, rfl⟩⟩
set_option maxHeartbeats 1000000 in
set_option maxRecDepth 100000 in
theorem eClone_calls (base : Nat) (v : Value) (l : List Ev) (w : World) (hl : EvAt w base v l) (hbig : l.length ≤ 2097152) :
    Calls Tryz.prog 46 #[v] w fun e W => ClonePost l w e W := by
  have HL := Aside0.mk hl
  rcases hl.2 with ⟨rfl, h0⟩ | ⟨g, c, cur, rfl, hb, hg, hn, hm, hz, ht⟩
  · have HF : Aside0 (ClonePost l w (.returned (.slice none 0 0)) w) := ⟨⟨_, rfl, by rw [List.length_eq_zero_iff.1 h0]; exact own_none w 0, Below.refl _ _⟩⟩
    clear hl h0
    have hnil : ∀ W : World, (Go.binOp .eql 22 (.slice none 0 0) (.slice none 0 0)).run Tryz.prog W = .ok (.bool true) W := fun _ => rfl
    go_enter Tryz.func46, Tryz.ntmps46
    go_wp2
    go_ret
    exact HF.out
  · clear hl
    have hnil : ∀ (W : World) n, (Go.binOp .eql 22 (.slice (some ⟨g, 0, none⟩) n c) (.slice none 0 0)).run Tryz.prog W = .ok (.bool false) W := fun _ _ => rfl
    go_enter Tryz.func46, Tryz.ntmps46
    obtain ⟨i0, hi0, hz0, hzs, hzb⟩ := info_parts ei_info
    have hown0 : (w.alloc (.cells #[] 28)).ownsRow w.heap.size 28 8 (.slice (some ⟨w.heap.size, 0, none⟩) 0 0) 0 [] := ⟨rfl, .inr ⟨w.heap.size, 0, #[], rfl, Nat.le_refl _, heap_alloc_new w _, Nat.le_refl _, by decide, rfl, rfl⟩⟩
    have hnew : ∀ j u, (evsC l)[j]? = some u → (w.alloc (.cells #[] 28)).cell? ((⟨g, 0, none⟩ : Addr).add j) = some u := fun j u hu => by
      have hj : j < l.length * 8 := by
        have h1 := (List.getElem?_eq_some_iff.1 hu).1
        rw [evsC_len] at h1; exact h1
      have h2 : (w.alloc (.cells #[] 28)).heap[g]? = some (.cells cur 28 (0, 0)) := ((below_alloc (Below.refl _ _) _).block g (blk_lt hg)).trans hg
      rw [add_plain, blk_cell h2 j]
      rw [← ht, List.getElem?_take, if_pos hj] at hu
      simpa using hu
    have HO := Aside0.mk hown0
    have HN := Aside0.mk hnew
    have HBg := Aside0.mk hbig
    clear hown0 hnew hb hg hn hm hz ht hbig
    go_wp2_with (at_builtin; refine wpList_append_own_at _ rfl _ _ 22 rfl w.heap.size 28 i0 (.agg #[.string ⟨#[]⟩, .int .i64 0, .int .i64 0, .int .i64 0, .string ⟨#[]⟩, .string ⟨#[]⟩, .int .i64 0, .string ⟨#[]⟩]) 8 96 Tryz.underlying22 hi0 hz0 hzs hzb rfl (by decide) _ _ _ rfl HO.out ⟨g, 0, none⟩ l.length c (evsC l) rfl (evsC_len l) HN.out evsC_one (by unfold maxLen; have := HBg.out; omega) (by have := HBg.out; omega) (by show w.heap.size ≤ (w.heap.push _).size; rw [Array.size_push]; omega) ?_)
    intro v' w1 hown' hgrow hnil hloc
    have HF : Aside0 (ClonePost l w (.returned v') w1) := ⟨⟨v', rfl, hown', (below_alloc (Below.refl _ _) _).grown hgrow (by show w.heap.size ≤ (w.heap.push _).size; rw [Array.size_push]; omega) (fun k hk => Nat.le_of_eq (Option.some.inj hk))⟩⟩
    clear hown' hgrow hnil hloc
    go_wp2
    go_ret
    exact HF.out
end Go.Proofs.YtmmfoeckggpgdaaGreatDoor
set_option linter.unusedSimpArgs false
set_option linter.unusedVariables false
namespace Go.Proofs.YtmmfoeckggpgdaaGreatDoor
open Go.RowKit Go.Lib Go.Maps Go.Proofs.YtmmfoeckggpgdaaGreatDoorW.PrintWords

/-- an event of a person's that goes -/
def goneB (s : ByteArray) (x : Ev) : Bool := (x.person.toList == s.toList) && (x.kind != 14)
theorem goneF_calls (x : Ev) (g : Nat) (s : ByteArray) (w : World) (h : w.cell? ⟨g, 0, none⟩ = some (.string s)) : Calls Tryz.prog 154 #[evV x, .pointer (some ⟨g, 0, none⟩)] w fun e w' => e = .returned (.bool (goneB s x)) ∧ Below w.heap.size w w' := by
  have h2 := fun o => (below_alloc (Below.refl w.heap.size w) o).cell (World.block_lt_of_cell? w _ h)
  have h3 : ∀ o, (w.alloc o).cell? ⟨g, 0, none⟩ = some (.string s) := fun o => (h2 o).trans h
  have HB : Aside0 (∀ o, Below w.heap.size w (w.alloc o)) := ⟨fun o => below_alloc (Below.refl _ _) o⟩
  clear h2
  obtain ⟨s0, s1, s2, s3, s4, s5, s6, s7⟩ := x
  obtain ⟨q, hq⟩ : ∃ q, q = (s4.toList == s.toList) := ⟨_, rfl⟩
  have HQ : Aside0 (goneB s ⟨s0, s1, s2, s3, s4, s5, s6, s7⟩ = (q && (s3 != 14))) := ⟨by rw [hq]; rfl⟩
  have hq' := hq.symm
  clear hq h
  unfold evV evC
  cases q
  · go_enter Tryz.func154, Tryz.ntmps154
    go_wp2
    go_ret
    exact ⟨by rw [HQ.out]; rfl, by first | exact HB.out _ | exact pw_below_drewN (HB.out _) _⟩
  · go_enter Tryz.func154, Tryz.ntmps154
    go_wp2
    go_ret
    exact ⟨by rw [HQ.out]; rfl, by first | exact HB.out _ | exact pw_below_drewN (HB.out _) _⟩
/-- an event is written -/
abbrev setE (w : World) (b o : Nat) (e : Ev) : World := (((((((w.setCell ⟨b, o, none⟩ (.string e.source)).setCell ⟨b, o + 1, none⟩ (.int .i64 e.number)).setCell ⟨b, o + 2, none⟩ (.int .i64 e.at_)).setCell ⟨b, o + 3, none⟩ (.int .i64 e.kind)).setCell ⟨b, o + 4, none⟩ (.string e.person)).setCell ⟨b, o + 5, none⟩ (.string e.item)).setCell ⟨b, o + 6, none⟩ (.int .i64 e.value)).setCell ⟨b, o + 7, none⟩ (.string e.text)
theorem evsC_set : ∀ (l : List Ev) (i : Nat) (e : Ev), i < l.length → (((((((((evsC l).set (i * 8) (.string e.source)).set (i * 8 + 1) (.int .i64 e.number)).set (i * 8 + 2) (.int .i64 e.at_)).set (i * 8 + 3) (.int .i64 e.kind)).set (i * 8 + 4) (.string e.person)).set (i * 8 + 5) (.string e.item)).set (i * 8 + 6) (.int .i64 e.value)).set (i * 8 + 7) (.string e.text)) = evsC (l.set i e)
  | x :: l, 0, e, _ => rfl
  | x :: l, i + 1, e, h => by
    have ih := evsC_set l i e (by simpa using h)
    rw [evsC_cons, List.set_cons_succ, evsC_cons, ← ih]
    obtain ⟨s0, s1, s2, s3, s4, s5, s6, s7⟩ := x
    have hk : ∀ (L : List Value) j u, (evC ⟨s0, s1, s2, s3, s4, s5, s6, s7⟩ ++ L).set ((i + 1) * 8 + j) u = evC ⟨s0, s1, s2, s3, s4, s5, s6, s7⟩ ++ L.set (i * 8 + j) u := fun L j u => by
      rw [List.set_append_right _ _ (by rw [evC_len]; omega), evC_len, show (i + 1) * 8 + j - 8 = i * 8 + j by omega]
    have h0 := fun L u => hk L 0 u
    simp only [Nat.add_zero] at h0
    rw [h0, hk, hk, hk, hk, hk, hk, hk]
theorem EvAt.set {w : World} {base g c : Nat} {l : List Ev} (h : EvAt w base (.slice (some ⟨g, 0, none⟩) l.length c) l) (i : Nat) (hi : i < l.length) (e : Ev) : EvAt (setE w g (i * 8) e) base (.slice (some ⟨g, 0, none⟩) l.length c) (l.set i e) := by
  have k0 := (World.ownsRow.stored h (i * 8) (.string e.source)).1
  have k1 := (World.ownsRow.stored k0 (i * 8 + 1) (.int .i64 e.number)).1
  have k2 := (World.ownsRow.stored k1 (i * 8 + 2) (.int .i64 e.at_)).1
  have k3 := (World.ownsRow.stored k2 (i * 8 + 3) (.int .i64 e.kind)).1
  have k4 := (World.ownsRow.stored k3 (i * 8 + 4) (.string e.person)).1
  have k5 := (World.ownsRow.stored k4 (i * 8 + 5) (.string e.item)).1
  have k6 := (World.ownsRow.stored k5 (i * 8 + 6) (.int .i64 e.value)).1
  have k7 := (World.ownsRow.stored k6 (i * 8 + 7) (.string e.text)).1
  unfold EvAt
  rw [← evsC_set l i e hi, List.length_set]
  exact k7
theorem setE_fr (w : World) (g o : Nat) (e : Ev) : Fr (fun k => k = g) w (setE w g o e) :=
  ((((((((Fr.refl (fun k => k = g) w).setCell (p := ⟨g, o, none⟩) (.inl rfl) _).setCell (p := ⟨g, o + 1, none⟩) (.inl rfl) _).setCell (p := ⟨g, o + 2, none⟩) (.inl rfl) _).setCell (p := ⟨g, o + 3, none⟩) (.inl rfl) _).setCell (p := ⟨g, o + 4, none⟩) (.inl rfl) _).setCell (p := ⟨g, o + 5, none⟩) (.inl rfl) _).setCell (p := ⟨g, o + 6, none⟩) (.inl rfl) _).setCell (p := ⟨g, o + 7, none⟩) (.inl rfl) _
/-! ### DeleteFunc -/
theorem idxP_spec (p : Ev → Bool) : ∀ (l : List Ev) (k : Nat), (idxP p l k = -1 ∧ l.filter (fun x => !p x) = l) ∨ ∃ i, idxP p l k = ((k + i : Nat) : Int) ∧ i < l.length ∧ (l.take (i + 1)).filter (fun x => !p x) = l.take i
  | [], k => .inl ⟨rfl, rfl⟩
  | x :: r, k => by
    unfold idxP
    cases h : p x
    · have ih := idxP_spec p r (k + 1)
      rw [show ((k : Int) + 1) = ((k + 1 : Nat) : Int) from rfl]
      rcases ih with ⟨h1, h2⟩ | ⟨i, h1, h2, h3⟩
      · exact .inl ⟨by simpa using h1, by simp [h, h2]⟩
      · refine .inr ⟨i + 1, by rw [if_neg (by simp), h1]; congr 1; omega, by simpa using h2, ?_⟩
        rw [List.take_succ_cons, List.filter_cons, if_pos (by simp [h]), h3, List.take_succ_cons]
    · exact .inr ⟨0, by simp, by simp, by simp [h]⟩
theorem EvAt.reads {w : World} {base g n c : Nat} {m : List Ev} (h : EvAt w base (.slice (some ⟨g, 0, none⟩) n c) m) : (∀ j, (hj : j < m.length) → EvRd w g (j * 8) m[j]) ∧ (∀ o, w.frozen? ⟨g, o, none⟩ = false) ∧ g < w.heap.size ∧ n = m.length ∧ m.length ≤ c := by
  rcases h.2 with ⟨h', _⟩ | ⟨g', c', cur, h', hb, hg, hn, hm, hz, ht⟩
  · injection h' with h'; cases h'
  · injection h' with h' hn' h''
    injection h' with h'
    injection h' with h'
    subst h' h'' hn'
    refine ⟨fun j hj => ?_, fun o => blk_frozen hg o, blk_lt hg, rfl, hn⟩
    have hr : ∀ i, i < 8 → w.cell? ⟨g, j * 8 + i, none⟩ = (evC m[j])[i]? := fun i hi => by
      have h1 := evsC_get m j hj i hi
      rw [← ht, List.getElem?_take, if_pos (by omega)] at h1
      rw [blk_cell hg]
      simpa using h1
    exact ⟨hr 0 (by omega), hr 1 (by omega), hr 2 (by omega), hr 3 (by omega), hr 4 (by omega), hr 5 (by omega), hr 6 (by omega), hr 7 (by omega)⟩
theorem drop_get {m l : List Ev} {j : Nat} (h : m.drop j = l.drop j) (hj : j < l.length) (hm : j < m.length) : m[j] = l[j] := by
  have h1 := List.drop_eq_getElem_cons hm
  have h2 := List.drop_eq_getElem_cons hj
  rw [h, h2] at h1
  injection h1 with h1 _
  exact h1.symm
theorem filt_succ {l : List Ev} {j : Nat} (q : Ev → Bool) (hj : j < l.length) : (l.take (j + 1)).filter q = (l.take j).filter q ++ (if q l[j] then [l[j]] else []) := by
  rw [List.take_succ_eq_append_getElem hj, List.filter_append]
  congr 1
  cases hq : q l[j] <;> simp [hq]
theorem set_take {m : List Ev} {i : Nat} {x : Ev} (hi : i < m.length) : (m.set i x).take (i + 1) = m.take i ++ [x] := by
  rw [List.take_succ_eq_append_getElem (by simpa using hi), List.take_set_of_le (Nat.le_refl _)]
  simp
theorem set_drop {m : List Ev} {i j : Nat} {x : Ev} (hi : i < j) : (m.set i x).drop j = m.drop j := List.drop_set_of_lt hi
def zeroE : Value := .agg #[.string ⟨#[]⟩, .int .i64 0, .int .i64 0, .int .i64 0, .string ⟨#[]⟩, .string ⟨#[]⟩, .int .i64 0, .string ⟨#[]⟩]
theorem zeroE_run (w : World) : (zeroValue 28).run Tryz.prog w = .ok zeroE w := by kernel_rfl
theorem zeroE_at : ∀ r, r < 8 → (zeroE.cells[r]!).oneCell' = true := by
  intro r hr
  rcases r with _ | _ | _ | _ | _ | _ | _ | _ | r
  all_goals first | rfl | omega
theorem zeroE_one (n : Nat) : ∀ v ∈ (Builtin.zeroCells zeroE.cells n).toList, v.oneCell' = true := by
  intro v hv
  simp only [Builtin.zeroCells, Array.toList_map, List.mem_map] at hv
  obtain ⟨k, _, rfl⟩ := hv
  exact zeroE_at _ (Nat.mod_lt _ (by decide))
def DelPost (base : Nat) (v : Value) (l : List Ev) (w : World) (e : Ending) (W : World) : Prop := ∃ v', e = .returned v' ∧ EvAt W base v' l ∧ Fr (fun k => v.ownBlock = some k) w W ∧ v'.ownBlock = v.ownBlock
set_option maxRecDepth 100000 in
set_option maxHeartbeats 2000000 in
theorem deleteF_calls (F : Nat) (P : Value) (p : Ev → Bool) (base : Nat) (v : Value) (l : List Ev) (w : World) (heg : ∀ args w, (callFunc F args).run Tryz.prog w = .ok (.enter F args) w) (hl : EvAt w base v l) (hbig : l.length ≤ 2097152)
    (hp : ∀ W x, Fr (fun k => v.ownBlock = some k) w W → Calls Tryz.prog F #[evV x, P] W fun e w' => e = .returned (.bool (p x)) ∧ Below W.heap.size W w') :
    Calls Tryz.prog 67 #[v, .func (.func F) #[] #[P]] w fun e W => DelPost base v (l.filter (fun x => !p x)) w e W := by
  have HX := Aside0.mk (index_calls F P p base v l w heg hl (fun W x hW => hp W x (Fr.of_below hW _)))
  have HS := Aside0.mk (idxP_spec p l 0)
  obtain ⟨ix, hix⟩ : ∃ ix, ix = idxP p l 0 := ⟨_, rfl⟩
  have HIX := Aside0.mk hix
  rw [← hix] at HX
  have HL := Aside0.mk hl
  have HP := Aside0.mk hp
  clear hix hp
  go_enter Tryz.func67, Tryz.ntmps67
  go_wp2_with fail
  refine HX.out.mono ?_
  rintro e w1 ⟨rfl, hb1⟩
  have HL1 := Aside0.mk (hl.below hb1)
  have F1 := Aside0.mk (Fr.of_below hb1 (fun k => v.ownBlock = some k))
  clear hb1 HX hl
  rcases HS.out with ⟨h1, h2⟩ | ⟨i0, h1, h2, h3⟩
  · have HF : Aside0 (DelPost base v (l.filter (fun x => !p x)) w (.returned v) w1) := ⟨⟨v, rfl, by rw [h2]; exact HL1.out, F1.out, rfl⟩⟩
    obtain rfl : ix = -1 := by rw [HIX.out]; exact h1
    clear h1 h2 HS HIX
    go_wp2
    go_ret
    exact HF.out
  · rw [Nat.zero_add] at h1
    obtain rfl : ix = (i0 : Int) := by rw [HIX.out]; exact h1
    obtain ⟨A, c, hv, hnc, hcm, hc⟩ := HL1.out.form
    obtain ⟨g, hA, hg, hbg, hcell, hfz⟩ := hc (by omega)
    subst hA
    subst hv
    have H3 := Aside0.mk h3
    clear h1 h3 HS HIX hcell hfz hc
    have hne : ((i0 : Int) == -1) = false := beq_eq_false_iff_ne.2 (by omega)
    have hc63 : c ≤ 9223372036854775807 := by unfold maxLen at hcm; omega
    go_wp2_with fail
    go_loopw [5, 6] (fun s5 s6 wr => ∃ (i j : Nat) (m : List Ev), s5 = .int .i64 i ∧ s6 = .int .i64 j ∧ i < j ∧ j ≤ l.length ∧ Aside0 (m.length = l.length) ∧ Aside0 (EvAt wr base (.slice (some ⟨g, 0, none⟩) l.length c) m) ∧ Aside0 (m.take i = (l.take j).filter (fun x => !p x)) ∧ Aside0 (m.drop j = l.drop j) ∧ Aside0 (Fr (fun k => (Value.slice (some ⟨g, 0, none⟩) l.length c).ownBlock = some k) w wr)) (fun _ j _ => l.length - (intOf j).toNat)
    case atStart => exact ⟨i0, i0 + 1, l, rfl, by go_num, by omega, by omega, ⟨rfl⟩, HL1, ⟨H3.out.symm⟩, ⟨rfl⟩, F1⟩
    case round =>
      obtain ⟨i, j, m, rfl, rfl, hij, hj, HML, HEv, HTk, HDr, HFr⟩ := hrel
      clear HL1 F1 H3
      by_cases hlt : j < l.length
      · obtain ⟨hcell, hfz, hgw, hln, hlc⟩ := HEv.out.reads
        have hjm : j < m.length := by rw [HML.out]; exact hlt
        have hxx := drop_get HDr.out hlt hjm
        have hfs := filt_succ (fun x => !p x) hlt
        obtain ⟨c0, c1, c2, c3, c4, c5, c6, c7⟩ := hcell j hjm
        rw [hxx] at c0 c1 c2 c3 c4 c5 c6 c7
        obtain ⟨x, hx⟩ : ∃ x, x = l[j] := ⟨_, rfl⟩
        rw [← hx] at c0 c1 c2 c3 c4 c5 c6 c7 hfs
        have HFs := Aside0.mk hfs
        have hpx := HP.out
        clear hfs hxx hcell hx hfz hgw hln hlc
        obtain ⟨s0, s1, s2, s3, s4, s5, s6, s7⟩ := x
        simp only at c0 c1 c2 c3 c4 c5 c6 c7
        have HPx := Aside0.mk (fun W hW => HP.out W ⟨s0, s1, s2, s3, s4, s5, s6, s7⟩ hW)
        clear hpx
        go_wp2_with fail
        refine (HPx.out _ (HFr.out.alloc _)).mono ?_
        rintro e w4 ⟨rfl, hb4⟩
        have HBd : Aside0 (EvRd w4 wr.heap.size 0 ⟨s0, s1, s2, s3, s4, s5, s6, s7⟩) := ⟨(boxed wr ⟨s0, s1, s2, s3, s4, s5, s6, s7⟩).below hb4⟩
        have HE4 : Aside0 (EvAt w4 base (.slice (some ⟨g, 0, none⟩) l.length c) m) := ⟨(HEv.out.below (below_alloc (Below.refl _ _) _)).below hb4⟩
        have F4 : Aside0 (Fr (fun k => (Value.slice (some ⟨g, 0, none⟩) l.length c).ownBlock = some k) w w4) := ⟨(HFr.out.alloc _).below hb4⟩
        obtain ⟨q, hq⟩ : ∃ q, q = p ⟨s0, s1, s2, s3, s4, s5, s6, s7⟩ := ⟨_, rfl⟩
        rw [← hq] at HFs ⊢
        clear hb4 hq HEv HFr HPx c0 c1 c2 c3 c4 c5 c6 c7
        cases q
        · obtain ⟨hcell, hfz, hgw, hln, hlc⟩ := HE4.out.reads
          have hie : i < m.length := by rw [HML.out]; omega
          have il : i < l.length := by omega
          obtain ⟨d0, d1, d2, d3, d4, d5, d6, d7⟩ := HBd.out
          obtain ⟨e0, e1, e2, e3, e4, e5, e6, e7⟩ := hcell i hie
          simp only [Nat.zero_add] at d0 d1 d2 d3 d4 d5 d6 d7
          have HE5 : Aside0 (EvAt (setE w4 g (i * 8) ⟨s0, s1, s2, s3, s4, s5, s6, s7⟩) base (.slice (some ⟨g, 0, none⟩) l.length c) (m.set i ⟨s0, s1, s2, s3, s4, s5, s6, s7⟩)) := ⟨by
            have h9 := HE4.out
            rw [hln] at h9 ⊢
            exact h9.set i hie _⟩
          have F5 : Aside0 (Fr (fun k => (Value.slice (some ⟨g, 0, none⟩) l.length c).ownBlock = some k) w (setE w4 g (i * 8) ⟨s0, s1, s2, s3, s4, s5, s6, s7⟩)) := ⟨F4.out.then_ (setE_fr _ _ _ _) (fun k hk => .inl (by rw [hk]; rfl))⟩
          have HT5 : Aside0 ((m.set i ⟨s0, s1, s2, s3, s4, s5, s6, s7⟩).take (i + 1) = (l.take (j + 1)).filter (fun x => !p x)) := ⟨by rw [set_take hie, HTk.out, HFs.out]; rfl⟩
          have HD5 : Aside0 ((m.set i ⟨s0, s1, s2, s3, s4, s5, s6, s7⟩).drop (j + 1) = l.drop (j + 1)) := ⟨by rw [set_drop (by omega), ← List.drop_drop, HDr.out, List.drop_drop]⟩
          have HM5 : Aside0 ((m.set i ⟨s0, s1, s2, s3, s4, s5, s6, s7⟩).length = l.length) := ⟨by rw [List.length_set]; exact HML.out⟩
          clear hcell hln hlc HFs HTk HDr HML HE4 HBd F4
          go_wp2
          go_roundw
          case rel => exact ⟨i + 1, j + 1, m.set i ⟨s0, s1, s2, s3, s4, s5, s6, s7⟩, by go_num, by go_num, by omega, hlt, HM5, HE5, HT5, HD5, F5⟩
          case measure => simp [intOf]; omega
        · have HT5 : Aside0 (m.take i = (l.take (j + 1)).filter (fun x => !p x)) := ⟨by rw [HTk.out, HFs.out]; simp⟩
          have HD5 : Aside0 (m.drop (j + 1) = l.drop (j + 1)) := ⟨by rw [← List.drop_drop, HDr.out, List.drop_drop]⟩
          clear HFs HTk HDr HBd
          go_wp2
          go_roundw
          case rel => exact ⟨i, j + 1, m, rfl, by go_num, by omega, hlt, HML, HE4, HT5, HD5, F4⟩
          case measure => simp [intOf]; omega
      · obtain rfl : j = l.length := by omega
        obtain ⟨cur, hbg2, hgb, hnc2, hcm2, hcz, htk⟩ := own_block (cells := evsC m) (by have h9 := HEv.out; unfold EvAt at h9; rw [HML.out] at h9; exact h9)
        obtain ⟨zs, hzs⟩ : ∃ zs, zs = (Builtin.zeroCells zeroE.cells (l.length - i)).toList := ⟨_, rfl⟩
        have hzl : zs.length = (l.length - i) * 8 := by rw [hzs, Array.length_toList, size_zeroCells]; rfl
        have hzo : ∀ v ∈ zs, v.oneCell' = true := by rw [hzs]; exact zeroE_one _
        obtain ⟨W2, hW2⟩ : ∃ W2, W2 = wr.setCells g (i * 8) zs := ⟨_, rfl⟩
        have hclr : ∀ ty q, (Builtin.clear_ #[22] ty #[.slice (some ⟨g, i * 8, none⟩) (l.length - i) q]).run Tryz.prog wr = .ok (.tuple #[]) W2 := fun ty q => by
          rw [hW2]
          exact run_clear_cellsK wr 22 28 ty _ Tryz.underlying22 (zeroE_run wr) g (i * 8) (l.length - i) q (by omega) zs hzs.symm
            (fun k hk => by rw [blk_cell hgb, Array.getElem?_eq_getElem (by rw [hcz]; rw [hzl] at hk; omega)]; rfl) (fun k hk => blk_frozen hgb _) hzo
        have hb2 := setCells_blk g zs (i * 8) wr cur hgb (by rw [hzl, hcz]; omega)
        rw [← hW2] at hb2
        have hF : Fr (fun k => (Value.slice (some ⟨g, 0, none⟩) l.length c).ownBlock = some k) w W2 := by
          rw [hW2]; exact HFr.out.then_ (setCells_fr g _ _ _) (fun k hk => .inl (by rw [hk]; rfl))
        have hmi : (m.take i).length = i := by rw [List.length_take, HML.out]; omega
        have HFin : Aside0 (DelPost base (.slice (some ⟨g, 0, none⟩) l.length c) (l.filter (fun x => !p x)) w (.returned (.slice (some ⟨g, 0, none⟩) i c)) W2) := ⟨by
          have hfe : l.filter (fun x => !p x) = m.take i := by have h9 := HTk.out; rw [List.take_length] at h9; exact h9.symm
          rw [hfe]
          refine ⟨_, rfl, ⟨evsC_len _, .inr ⟨g, c, _, by rw [hmi], hbg2, hb2, by omega, hcm2, ?_, ?_⟩⟩, hF, rfl⟩
          · have hcl : cur.toList.length = c * 8 := by rw [Array.length_toList]; exact hcz
            simp only [List.size_toArray, List.length_append, List.length_take, List.length_drop, hcl, hzl]; omega
          · have hcl : cur.toList.length = c * 8 := by rw [Array.length_toList]; exact hcz
            rw [hmi, List.toList_toArray, List.append_assoc, List.take_append_of_le_length (by rw [List.length_take, hcl]; omega), List.take_take, Nat.min_self]
            have h8 := evsC_take (m.take i) (m.drop i)
            rw [List.take_append_drop, hmi] at h8
            rw [← h8, ← htk, List.take_take]
            congr 1; omega⟩
        have hle : (i : Int) ≤ (l.length : Int) := by omega
        have hle2 : i ≤ l.length := by omega
        have hle3 : i ≤ c := by omega
        have hle4 : (i : Int) ≤ (c : Int) := by omega
        have hcl1 := fun ty => hclr ty (c - i)
        have hi0 : (0 : Int) ≤ (i : Int) := by omega
        have hne2 : ¬ (c = i) := by omega
        have HC1 := Aside0.mk hcl1
        clear hgb hbg2 hnc2 hcm2 hcz htk hzl hzo hb2 hF hmi hW2 hzs hclr HEv HFr HTk HDr HML
        go_wp2
        go_ret
        exact HFin.out
theorem without_calls (base : Nat) (v : Value) (l : List Ev) (s : ByteArray) (w : World) (hl : EvAt w base v l) (hbig : l.length ≤ 2097152) :
    Calls Tryz.prog 105 #[v, .string s] w fun e W => DelPost base v (l.filter (fun x => !goneB s x)) w e W := by
  obtain ⟨wA, hA⟩ : ∃ wA, wA = w.alloc (.cells #[.string s] 9) := ⟨_, rfl⟩
  have hBA : Below w.heap.size w wA := by rw [hA]; exact below_alloc (Below.refl _ _) _
  have hcA : wA.cell? ⟨w.heap.size, 0, none⟩ = some (.string s) := by rw [hA]; exact blk_cell (heap_alloc_new w _) 0
  have hvb : ∀ k, v.ownBlock = some k → k < w.heap.size := fun k hk => own_lt hl k hk
  have hD := deleteF_calls 154 (.pointer (some ⟨w.heap.size, 0, none⟩)) (goneB s) base v l wA (enters_of Tryz.func154 (by kernel_rfl) rfl) (hl.below hBA) hbig
    (fun W x hW => goneF_calls x w.heap.size s W (hW.cell hcA (fun hk => Nat.lt_irrefl _ (hvb _ hk))))
  have HD := Aside0.mk hD
  have HE : Aside0 (∀ e W, DelPost base v (l.filter (fun x => !goneB s x)) wA e W → DelPost base v (l.filter (fun x => !goneB s x)) w e W) := ⟨fun e W ⟨v', h1, h2, h3, h4⟩ => ⟨v', h1, h2, (Fr.of_below hBA _).then_ h3 (fun k hk => .inl hk), h4⟩⟩
  clear hD hBA hcA hvb hl
  go_enter Tryz.func105, Tryz.ntmps105
  go_wp2_with fail
  rw [← hA]
  refine HD.out.mono ?_
  intro e W hW
  have HW := Aside0.mk (HE.out e W hW)
  clear hW
  obtain ⟨v', rfl, h2⟩ := HW.out
  clear h2
  go_wp2
  go_ret
  exact HW.out
end Go.Proofs.YtmmfoeckggpgdaaGreatDoor
set_option linter.unusedSimpArgs false
set_option linter.unusedVariables false
namespace Go.Proofs.YtmmfoeckggpgdaaGreatDoor
open Go.RowKit Go.Lib Go.Maps Go.Proofs.YtmmfoeckggpgdaaGreatDoorW.PrintWords

def uptoB (mark : Int) (x : Ev) : Bool := decide (x.at_ ≤ mark)
theorem settF_calls (x : Ev) (mark : Int) (w : World) : Calls Tryz.prog 108 #[evV x, .int .i64 mark] w fun e w' => e = .returned (.int .i64 (if uptoB mark x then -1 else 1)) ∧ Below w.heap.size w w' := by
  obtain ⟨s0, s1, s2, s3, s4, s5, s6, s7⟩ := x
  have HB : Aside0 (∀ o, Below w.heap.size w (w.alloc o)) := ⟨fun o => below_alloc (Below.refl _ _) o⟩
  unfold evV evC
  by_cases h : s2 ≤ mark
  · have HQ : Aside0 (uptoB mark ⟨s0, s1, s2, s3, s4, s5, s6, s7⟩ = true) := ⟨decide_eq_true h⟩
    rw [HQ.out, if_pos rfl]
    go_enter Tryz.func108, Tryz.ntmps108
    go_wp2
    go_ret
    exact ⟨rfl, HB.out _⟩
  · have HQ : Aside0 (uptoB mark ⟨s0, s1, s2, s3, s4, s5, s6, s7⟩ = false) := ⟨decide_eq_false h⟩
    rw [HQ.out, if_neg (by simp)]
    go_enter Tryz.func108, Tryz.ntmps108
    go_wp2
    go_ret
    exact ⟨rfl, HB.out _⟩
set_option maxRecDepth 100000 in
set_option maxHeartbeats 1000000 in
theorem bsearchM_calls (mark : Int) (base : Nat) (v : Value) (l : List Ev) (w : World) (hl : EvAt w base v l) (hp : Parted (uptoB mark) l) (hbig : l.length ≤ 4194304) :
    Calls Tryz.prog 107 #[v, .int .i64 mark, .func (.func 108) #[] #[]] w fun r w' => r = .returned (.tuple #[.int .i64 (posW (uptoB mark) l), .bool false]) ∧ Below w.heap.size w w' := by
  obtain ⟨A, c, hv, hnc, hcm, hc⟩ := hl.form
  subst hv
  have HC := Aside0.mk hc
  have HP := Aside0.mk hp
  have HCmp := Aside0.mk (fun x W => settF_calls x mark W)
  clear hl hp hc hcm hnc
  go_enter Tryz.func107, Tryz.ntmps107
  go_wp2_with fail
  go_loopw [9, 10] (fun s5 s6 wr => ∃ lo hi : Nat, s5 = .int .i64 lo ∧ s6 = .int .i64 hi ∧ lo ≤ hi ∧ hi ≤ l.length ∧ Aside0 (∀ t, (ht : t < l.length) → t < lo → uptoB mark l[t] = true) ∧ Aside0 (∀ t, (ht : t < l.length) → hi ≤ t → uptoB mark l[t] = false) ∧ Aside0 (Below w.heap.size w wr)) (fun s5 s6 _ => (intOf s6 - intOf s5).toNat)
  case atStart => exact ⟨0, l.length, rfl, rfl, Nat.zero_le _, Nat.le_refl _, ⟨fun t _ h => by omega⟩, ⟨fun t h1 h2 => by omega⟩, ⟨Below.refl _ _⟩⟩
  case round =>
    obtain ⟨lo, hi, rfl, rfl, hlh, hhn, HL, HH, HB⟩ := hrel
    by_cases hlt : lo < hi
    · obtain ⟨mid, hmid⟩ : ∃ mid : Nat, ((lo : Int) + (hi : Int)) / 2 = (mid : Int) := ⟨(lo + hi) / 2, by omega⟩
      have hm1 : lo ≤ mid := by omega
      have hm2 : mid < hi := by omega
      have hml : mid < l.length := by omega
      have hmn : (mid : Int).toNat = mid := Int.toNat_natCast mid
      have hm0 : (0 : Int) ≤ (mid : Int) := Int.natCast_nonneg mid
      have hml' : (mid : Int) < (l.length : Int) := Int.ofNat_lt.2 hml
      obtain ⟨g, hA, hg, hbg, hcell, hfz⟩ := HC.out (by omega)
      subst hA
      obtain ⟨c0, c1, c2, c3, c4, c5, c6, c7⟩ := (hcell mid hml).below HB.out
      have HMid : Aside0 (∀ t, (ht : t < l.length) → (t ≤ mid → uptoB mark l[mid] = true → uptoB mark l[t] = true) ∧ (mid ≤ t → uptoB mark l[mid] = false → uptoB mark l[t] = false)) := ⟨fun t ht => ⟨fun h1 h2 => HP.out t mid ht hml h1 h2, fun h1 h2 => by
        cases h3 : uptoB mark l[t]
        · rfl
        · rw [HP.out mid t hml ht h1 h3] at h2; cases h2⟩⟩
      have hcm := HCmp.out l[mid] wr
      obtain ⟨x, hx⟩ : ∃ x, x = l[mid] := ⟨_, rfl⟩
      rw [← hx] at c0 c1 c2 c3 c4 c5 c6 c7 HMid hcm
      have HCM := Aside0.mk hcm
      clear hx hcell hfz hg hbg hcm
      obtain ⟨s0, s1, s2, s3, s4, s5, s6, s7⟩ := x
      simp only at c0 c1 c2 c3 c4 c5 c6 c7
      go_wp2_with fail
      refine HCM.out.mono ?_
      rintro e w4 ⟨rfl, hb4⟩
      have HB4 := Aside0.mk (HB.out.trans (hb4.mono HB.out.size))
      obtain ⟨q, hq⟩ : ∃ q, q = uptoB mark ⟨s0, s1, s2, s3, s4, s5, s6, s7⟩ := ⟨_, rfl⟩
      rw [← hq] at HMid ⊢
      clear hq hb4 c0 c1 c2 c3 c4 c5 c6 c7 HCM
      cases q
      · have HH2 : Aside0 (∀ t, (ht : t < l.length) → mid ≤ t → uptoB mark l[t] = false) := ⟨fun t ht h => (HMid.out t ht).2 h rfl⟩
        have HL' := HL
        clear HMid HP HC HCmp
        rw [if_neg (by simp)]
        go_wp2
        go_roundw
        case rel => exact ⟨lo, mid, rfl, rfl, hm1, by omega, HL', HH2, HB4⟩
        case measure => simp [intOf]; omega
      · have HL2 : Aside0 (∀ t, (ht : t < l.length) → t < mid + 1 → uptoB mark l[t] = true) := ⟨fun t ht h => (HMid.out t ht).1 (by omega) rfl⟩
        have HH' := HH
        clear HMid HP HC HCmp
        rw [if_pos rfl]
        go_wp2
        go_roundw
        case rel => exact ⟨mid + 1, hi, by go_num, rfl, by omega, hhn, HL2, HH', HB4⟩
        case measure => simp [intOf]; omega
    · obtain rfl : lo = hi := by omega
      have HPos : Aside0 (lo = posW (uptoB mark) l) := ⟨posW_of hhn HL.out HH.out⟩
      by_cases hlt2 : lo < l.length
      · have hmn : (lo : Int).toNat = lo := Int.toNat_natCast lo
        have hm0 : (0 : Int) ≤ (lo : Int) := Int.natCast_nonneg lo
        have hml' : (lo : Int) < (l.length : Int) := Int.ofNat_lt.2 hlt2
        obtain ⟨g, hA, hg, hbg, hcell, hfz⟩ := HC.out (by omega)
        subst hA
        obtain ⟨c0, c1, c2, c3, c4, c5, c6, c7⟩ := (hcell lo hlt2).below HB.out
        have hcm := HCmp.out l[lo] wr
        rw [HH.out lo hlt2 (Nat.le_refl _), if_neg (by simp)] at hcm
        obtain ⟨x, hx⟩ : ∃ x, x = l[lo] := ⟨_, rfl⟩
        rw [← hx] at c0 c1 c2 c3 c4 c5 c6 c7 hcm
        have HCM := Aside0.mk hcm
        clear hx hcell hfz hg hbg hcm
        obtain ⟨s0, s1, s2, s3, s4, s5, s6, s7⟩ := x
        simp only at c0 c1 c2 c3 c4 c5 c6 c7
        go_wp2_with fail
        refine HCM.out.mono ?_
        rintro e w4 ⟨rfl, hb4⟩
        have HB4 := Aside0.mk (HB.out.trans (hb4.mono HB.out.size))
        clear hb4 c0 c1 c2 c3 c4 c5 c6 c7 HCM HC HCmp HP
        go_wp2
        go_ret2
        exact ⟨by rw [← HPos.out]; rfl, HB4.out⟩
      · have hnl : ¬ ((lo : Int) < (l.length : Int)) := by omega
        go_wp2
        go_ret2
        exact ⟨by rw [← HPos.out]; rfl, HB.out⟩
end Go.Proofs.YtmmfoeckggpgdaaGreatDoor
