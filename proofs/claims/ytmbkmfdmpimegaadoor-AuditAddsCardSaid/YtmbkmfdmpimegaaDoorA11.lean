/-
  The walk of the law's example (lives): it answers true.
-/
import Derived.Test.YtmbkmfdmpimegaaDoorA10
set_option linter.unusedSimpArgs false
set_option linter.unusedVariables false
namespace Go.Proofs.YtmbkmfdmpimegaaDoor
open Go.RowKit Go.Lib Go.Sort Go.Proofs.YtmbkmfdmpimegaaDoorW.PrintWords Go.Proofs.YtmbkmfdmpimegaaDoorW.PrintLast Go.Proofs.YtmbkmfdmpimegaaDoor.PR

theorem new_calls (seed : Int) (w : World) :
    Calls Tryd.prog 9 #[.int .u64 seed] w fun e w' => e = .returned (.pointer (some ⟨w.heap.size, 0, none⟩)) ∧ w' = w.alloc (.cells #[.int .u64 seed, .slice none 0 0] 52) := by
  go_enter Tryd.func9, Tryd.ntmps9
  go_wp2
  go_ret
  exact ⟨rfl, rfl⟩
/-- a block is not this one -/
def nb (g : Nat) : Nat → Prop := fun k => k ≠ g
theorem chain_new (seed : Int) (w : World) : Chain w.heap.size (nb w.heap.size) (w.alloc (.cells #[.int .u64 seed, .slice none 0 0] 52)) w.heap.size (.slice none 0 0) seed [] :=
  ⟨heap_alloc_new _ _, Kd.R_nil _ _ _ _ _, Nat.le_refl _, fun h => h rfl⟩
theorem conv_back (W : World) (A : Option Addr) (c : Nat) (s : ByteArray) (hr : ReadsInt W .u8 A s.size (bytesOf s)) : (convert 39 9 (.slice A s.size c)).run Tryd.prog W = .ok (.string s) W := by
  cases A with
  | none =>
    have h0 : s.size = 0 := by
      rcases Nat.eq_zero_or_pos s.size with h | h
      · exact h
      · obtain ⟨ad, e, _⟩ := hr.2.2 h; cases e
    have hs : s = ⟨#[]⟩ := by
      cases s with
      | mk d => simp [ByteArray.size] at h0; rw [h0]
    subst hs
    show (convert 39 9 (.slice none 0 c)).run Tryd.prog W = _
    rw [run_convert_bytes_string W 39 9 5 none 0 c Tryd.underlying39 Tryd.underlying5 Tryd.underlying9]
    rfl
  | some ad =>
    have h := run_convert_bytes_back (P := Tryd.prog) W 39 9 5 ad c s.data.toList Tryd.underlying39 Tryd.underlying5 Tryd.underlying9 (fun j hj => by
      have hj' : j < s.size := by simpa using hj
      obtain ⟨ad', e, hc⟩ := hr.2.2 (by omega)
      obtain rfl : ad = ad' := by injection e
      rw [hc j hj']
      have hj2 : j < s.data.size := hj'
      simp [bytesOf, List.getD_eq_getElem?_getD, Array.getElem?_eq_getElem hj2])
    simpa using h
theorem enc5 : encB 5 [] = ⟨#[97, 117, 100, 105, 116, 32, 53, 10]⟩ := by
  have h : Lib.decDigits 5 = [53] := Lib.decDigits_one (by decide)
  unfold encB encFrom beginB utoaB
  rw [h]; rfl
theorem add5 : addE 5 [] 1 2 ⟨#[112]⟩ [⟨#[97]⟩] = (⟨1, 2, ⟨#[112]⟩, [⟨#[97]⟩], sumE 5 1 2 ⟨#[112]⟩ [⟨#[97]⟩]⟩, [⟨1, 2, ⟨#[112]⟩, [⟨#[97]⟩], sumE 5 1 2 ⟨#[112]⟩ [⟨#[97]⟩]⟩]) := by
  unfold addE
  rw [if_pos (by decide)]; rfl
theorem sum5 : sumE 5 1 2 ⟨#[112]⟩ [⟨#[97]⟩] = hashI 5 [⟨#[49]⟩, ⟨#[50]⟩, ⟨#[112]⟩, ⟨#[97]⟩] := by
  have h1 : itoaB 1 = ⟨#[49]⟩ := by unfold itoaB; rw [show (1 : Int) = ((1 : Nat) : Int) from rfl, Lib.itoa_nonneg, Lib.decDigits_one (by decide)]; rfl
  have h2 : itoaB 2 = ⟨#[50]⟩ := by unfold itoaB; rw [show (2 : Int) = ((2 : Nat) : Int) from rfl, Lib.itoa_nonneg, Lib.decDigits_one (by decide)]; rfl
  unfold sumE
  rw [h1, h2]; rfl

def reg7_5.T : Bool × List (List Nat × List Nat) := (true, [([], []), ([0], [0]), ([], []), ([2], [2]), ([1, 3], [1, 3]), ([4, 3], [4]), ([5], [5]), ([6, 5, 5], [5, 6]), ([7, 5], [5, 7]), ([8, 5], [5, 8]), ([5, 9], [5, 9]), ([10, 7, 0, 1, 2, 3, 4, 5, 6, 7, 8, 9, 10], [10])])
def reg7_5.B : List Nat := [0, 1, 0, 4, 15, 31, 63, 127, 255, 511, 1023, 2047]
theorem reg7_5.tab : rtab .any (opsOf Tryd.f7 5) = reg7_5.T := by kernel_rfl
theorem reg7_5.bits : waitsOk reg7_5.T.2 reg7_5.B = true := by kernel_rfl
set_option maxRecDepth 100000 in
set_option maxHeartbeats 4000000 in
theorem lives_calls (w : World) (ht : Tab w) :
    Calls Tryd.prog 7 #[] w fun e w' => e = .returned (.bool true) ∧ Below w.heap.size w w' := by
  have HT := Aside0.mk ht
  clear ht
  go_enter Tryd.func7, Tryd.ntmps7
  go_wp2_with fail
  refine (new_calls 5 w).mono ?_
  rintro e w1 ⟨rfl, rfl⟩
  have HC1 := Aside0.mk (chain_new 5 w)
  have HB1 := Aside0.mk (below_alloc (Below.refl w.heap.size w) (.cells #[.int .u64 5, .slice none 0 0] 52))
  obtain ⟨W1, e1⟩ : ∃ W1, W1 = w.alloc (.cells #[.int .u64 5, .slice none 0 0] 52) := ⟨_, rfl⟩
  rw [← e1] at HC1 HB1 ⊢
  clear e1
  go_wp2_with fail
  refine (encode_calls w.heap.size _ 5 [] W1 HC1.out (by decide) (by simp) (by decide) (HT.out.below HB1.out)).mono ?_
  rintro e W2 ⟨A2, c2, rfl, hc2, hr2, hb2⟩
  rw [enc5] at hr2 ⊢
  have HB2 := Aside0.mk (HB1.out.trans (hb2.mono HB1.out.size))
  have HC2 := Aside0.mk (HC1.out.below hb2)
  have hcv : (convert 39 9 (.slice A2 8 c2)).run Tryd.prog W2 = .ok (.string ⟨#[97, 117, 100, 105, 116, 32, 53, 10]⟩) W2 := conv_back W2 A2 c2 _ hr2
  rw [show (⟨#[97, 117, 100, 105, 116, 32, 53, 10]⟩ : ByteArray).size = 8 from rfl]
  clear hb2 hr2 hc2
  go_wp2_with fail
  refine (add_calls w.heap.size _ 5 [] 1 2 ⟨#[112]⟩ _ _ [⟨#[97]⟩] _ (HC2.out.below (below_alloc (Below.refl _ _) _)) (strs_lit W2 [⟨#[97]⟩] (by decide)) (HT.out.below (below_alloc HB2.out _)) (by decide) (by decide) (by decide) (by decide) (fun k hk => ?_) ?_).mono ?_
  · have h1 := blk_lt HC2.out.blk
    have h2 : W2.heap.size + 1 ≤ k := by simpa using hk
    show k ≠ _
    omega
  · have := HB2.out.size
    simp; omega
  · rw [add5]
    rintro e W3 ⟨⟨v3, rfl, hR3⟩, hF3, v1, hC3, hat⟩
    obtain ⟨A3, c3, rfl⟩ := Kd.R_slice hR3
    have HB3 := Aside0.mk (HB2.out.trans ((Below.refl w.heap.size W2).alloc HB2.out.size (.cells #[.string ⟨#[97]⟩] 9)))
    have HB4 := Aside0.mk (HB3.out.trans (hF3.toBelow (B := w.heap.size) (by have := HB2.out.size; simp; omega) (fun k hk => by rcases hk with hk | hk; exact Nat.le_of_eq hk.symm; simp [Value.ownBlock] at hk)))
    have HC3 := Aside0.mk hC3
    clear hF3 hR3 hC3 hat HC1 HC2 hcv
    unfold entV
    go_wp2_with fail
    obtain ⟨W4, e4⟩ : ∃ W4, W4 = W3.alloc (.cells #[.int .i64 1, .int .i64 2, .string ⟨#[112]⟩, .slice A3 1 c3, .int .u64 (sumE 5 1 2 ⟨#[112]⟩ [⟨#[97]⟩])] 33) := ⟨_, rfl⟩
    have b4 : W4.heap[W3.heap.size]? = some (.cells #[.int .i64 1, .int .i64 2, .string ⟨#[112]⟩, .slice A3 1 c3, .int .u64 (sumE 5 1 2 ⟨#[112]⟩ [⟨#[97]⟩])] 33) := by rw [e4]; exact heap_alloc_new W3 _
    have HB5 : Aside0 (Below w.heap.size w W4) := by rw [e4]; exact ⟨below_alloc HB4.out _⟩
    have HC4 : Aside0 (Chain w.heap.size (nb w.heap.size) W4 w.heap.size v1 5 [⟨1, 2, ⟨#[112]⟩, [⟨#[97]⟩], sumE 5 1 2 ⟨#[112]⟩ [⟨#[97]⟩]⟩]) := by rw [e4]; exact ⟨HC3.out.below (below_alloc (Below.refl _ _) _)⟩
    obtain ⟨r0, r1, r2, r3, r4, rs⟩ := five b4
    have HQ0 := Aside0.mk (below_drew (Below.refl W4.heap.size W4))
    have heq : (sumE 5 1 2 ⟨#[112]⟩ [⟨#[97]⟩] == hashI 5 [⟨#[49]⟩, ⟨#[50]⟩, ⟨#[112]⟩, ⟨#[97]⟩]) = true := by rw [sum5]; simp
    have e4' : W3.alloc (.cells #[.int .i64 1, .int .i64 2, .string ⟨#[112]⟩, .slice A3 1 c3, .int .u64 (sumE 5 1 2 ⟨#[112]⟩ [⟨#[97]⟩])] 33) = W4 := e4.symm
    first | rw [e4'] | skip
    clear e4 e4' b4
    refine start_ (n := 12) (S := fun W => W.cell? ⟨W3.heap.size, 4, none⟩ = some (.int .u64 (sumE 5 1 2 ⟨#[112]⟩ [⟨#[97]⟩]))) (ds := []) #[false, false, false, false, false, false, false, false, false, false, false, false] (by kernel_rfl) rfl rfl r4 (fun hHeld => ?_)
    refine with_tabW reg7_5.tab reg7_5.bits (fun HT_ HW_ => ?_)
    refine pure_ (i := 0) (N := (some 15)) (v := ?_) (a' := ?_) #[true, false, false, false, false, false, false, false, false, false, false, false] rfl rfl (any_of HT_.out (by kernel_rfl)) (fun _ _ _ h => h) (Or.inl ⟨by rfl, ?_⟩) ?_ ?_
    rotate_left
    · intro w'
      go_simp
      with_reducible rfl
    rotate_left
    · simp only [Act.put, List.setIfInBounds_toArray, List.set_cons_zero, List.set_cons_succ, i64_w, i32_w]
      rfl
    refine take_ (i := 1) (N := (some 16)) (v := ?_) (a' := ?_) #[true, true, false, false, false, false, false, false, false, false, false, false] rfl rfl (take_ofW HT_.out HW_.out (by kernel_rfl)) (fun _ _ _ h => h) (Or.inl ⟨by rfl, ?_⟩) hHeld ?_ ?_
    rotate_left
    · rintro w' s0
      go_simp
      with_reducible rfl
    rotate_left
    · simp only [Act.put, List.setIfInBounds_toArray, List.set_cons_zero, List.set_cons_succ, i64_w, i32_w]
      rfl
    refine one_ (i := 2) (N := (some 17)) #[true, true, true, false, false, false, false, false, false, false, false, false] rfl rfl (one_of HT_.out (by kernel_rfl)) (by decide) (fun K hK => ?_)
    refine event_step (v := .slice (some ⟨W4.heap.size, 0, none⟩) 4 4) (w1 := W4.drew.alloc (.cells #[.string ⟨#[49]⟩, .string ⟨#[50]⟩, .string ⟨#[112]⟩, .string ⟨#[97]⟩] 9)) (by rfl) (by first | (go_simp; done) | (go_simp; rfl)) ?_
    refine hK.out _ _ (pw_cell_below (below_alloc HQ0.out _) r4) (fun hHeld => ?_)
    clear hK K
    refine norm_ (a' := ?_) ?_ ?_
    rotate_left
    · show Act.put _ (some 17) _ = _
      simp only [Act.put, List.setIfInBounds_toArray, List.set_cons_zero, List.set_cons_succ, i64_w, i32_w]
      rfl
    refine one_ (i := 3) (N := (some 18)) #[true, true, true, true, false, false, false, false, false, false, false, false] rfl rfl (one_of HT_.out (by kernel_rfl)) (by decide) (fun K hK => ?_)
    refine goes_ Tryd.func22 (by kernel_rfl) rfl #[.int .u64 5, .slice (some ⟨W4.heap.size, 0, none⟩) 4 4] (by rfl) rfl rfl (by (try simp only [List.map_toArray, List.map_cons, List.map_nil]); first | done | rfl) ?_
    refine (ciceroneref26_Hash.calls 100 5 _ _ [⟨#[49]⟩, ⟨#[50]⟩, ⟨#[112]⟩, ⟨#[97]⟩] _ _ (strs_lit W4.drew [⟨#[49]⟩, ⟨#[50]⟩, ⟨#[112]⟩, ⟨#[97]⟩] (by decide)) (by decide) (hash_ref 100 5 [⟨#[49]⟩, ⟨#[50]⟩, ⟨#[112]⟩, ⟨#[97]⟩] (by decide) (by decide) (by decide))).mono ?_
    rintro e w5 ⟨rfl, hb⟩
    refine ⟨_, rfl, ?_⟩
    have HQ1 := Aside0.mk ((below_alloc HQ0.out _).trans (hb.below.mono (by simp)))
    clear hb
    refine hK.out _ _ (pw_cell_below HQ1.out r4) (fun hHeld => ?_)
    clear hK K
    refine norm_ (a' := ?_) ?_ ?_
    rotate_left
    · show Act.put _ (some 18) _ = _
      simp only [Act.put, List.setIfInBounds_toArray, List.set_cons_zero, List.set_cons_succ, i64_w, i32_w]
      rfl
    refine pure_ (i := 4) (N := (some 19)) (v := ?_) (a' := ?_) #[true, true, true, true, true, false, false, false, false, false, false, false] rfl rfl (any_of HT_.out (by kernel_rfl)) (fun _ _ _ h => h) (Or.inl ⟨by rfl, ?_⟩) ?_ ?_
    rotate_left
    · intro w'
      go_simp
      with_reducible rfl
    rotate_left
    · simp only [Act.put, List.setIfInBounds_toArray, List.set_cons_zero, List.set_cons_succ, i64_w, i32_w]
      rfl
    refine pure_ (i := 5) (N := (some 20)) (v := ?_) (a' := ?_) #[true, true, true, true, true, true, false, false, false, false, false, false] rfl rfl (any_of HT_.out (by kernel_rfl)) (fun _ _ _ h => h) (Or.inl ⟨by rfl, ?_⟩) ?_ ?_
    rotate_left
    · intro w'
      go_simp
      with_reducible rfl
    rotate_left
    · simp only [Act.put, List.setIfInBounds_toArray, List.set_cons_zero, List.set_cons_succ, i64_w, i32_w]
      rfl
    refine pure_ (i := 6) (N := (some 21)) (v := ?_) (a' := ?_) #[true, true, true, true, true, true, true, false, false, false, false, false] rfl rfl (any_of HT_.out (by kernel_rfl)) (fun _ _ _ h => h) (Or.inl ⟨by rfl, ?_⟩) ?_ ?_
    rotate_left
    · intro w'
      go_simp
      with_reducible rfl
    rotate_left
    · simp only [Act.put, List.setIfInBounds_toArray, List.set_cons_zero, List.set_cons_succ, i64_w, i32_w]
      rfl
    refine one_ (i := 7) (N := (some 22)) #[true, true, true, true, true, true, true, true, false, false, false, false] rfl rfl (one_of HT_.out (by kernel_rfl)) (by decide) (fun K hK => ?_)
    refine goes_ Tryd.func15 (by kernel_rfl) rfl #[.pointer (some ⟨w.heap.size, 0, none⟩)] (by rfl) rfl rfl (by (try simp only [List.map_toArray, List.map_cons, List.map_nil]); first | done | rfl) ?_
    refine (entries_calls w.heap.size v1 5 _ _ (HC4.out.below HQ1.out) (by decide) (by decide)).mono ?_
    rintro e w6 ⟨v', rfl, hR, hb⟩
    refine ⟨_, rfl, ?_⟩
    obtain ⟨A6, c6, rfl⟩ := Kd.R_slice hR
    have HQ2 := Aside0.mk (HQ1.out.trans (hb.mono HQ1.out.size))
    clear hb hR
    refine hK.out _ _ (pw_cell_below HQ2.out r4) (fun hHeld => ?_)
    clear hK K
    refine norm_ (a' := ?_) ?_ ?_
    rotate_left
    · show Act.put _ (some 22) _ = _
      simp only [Act.put, List.setIfInBounds_toArray, List.set_cons_zero, List.set_cons_succ, i64_w, i32_w]
      rfl
    refine pure_ (i := 8) (N := (some 23)) (v := ?_) (a' := ?_) #[true, true, true, true, true, true, true, true, true, false, false, false] rfl rfl (any_of HT_.out (by kernel_rfl)) (fun _ _ _ h => h) (Or.inl ⟨by rfl, ?_⟩) ?_ ?_
    rotate_left
    · intro w'
      go_simp
      with_reducible rfl
    rotate_left
    · simp only [Act.put, List.setIfInBounds_toArray, List.set_cons_zero, List.set_cons_succ, i64_w, i32_w]
      rfl
    refine pure_ (i := 9) (N := (some 24)) (v := ?_) (a' := ?_) #[true, true, true, true, true, true, true, true, true, true, false, false] rfl rfl (any_of HT_.out (by kernel_rfl)) (fun _ _ _ h => h) (Or.inl ⟨by rfl, ?_⟩) ?_ ?_
    rotate_left
    · intro w'
      go_simp
      with_reducible rfl
    rotate_left
    · simp only [Act.put, List.setIfInBounds_toArray, List.set_cons_zero, List.set_cons_succ, i64_w, i32_w]
      rfl
    refine pure_ (i := 10) (N := (some 25)) (v := ?_) (a' := ?_) #[true, true, true, true, true, true, true, true, true, true, true, false] rfl rfl (any_of HT_.out (by kernel_rfl)) (fun _ _ _ h => h) (Or.inl ⟨by rfl, ?_⟩) ?_ ?_
    rotate_left
    · intro w'
      go_simp
      with_reducible rfl
    rotate_left
    · simp only [Act.put, List.setIfInBounds_toArray, List.set_cons_zero, List.set_cons_succ, i64_w, i32_w]
      rfl
    refine pure_ (i := 11) (N := (some 0)) (v := ?_) (a' := ?_) #[true, true, true, true, true, true, true, true, true, true, true, true] rfl rfl (any_of HT_.out (by kernel_rfl)) (fun _ _ _ h => h) (Or.inl ⟨by rfl, ?_⟩) ?_ ?_
    rotate_left
    · intro w'
      go_simp
      with_reducible rfl
    rotate_left
    · simp only [Act.put, List.setIfInBounds_toArray, List.set_cons_zero, List.set_cons_succ, i64_w, i32_w]
      rfl
    refine done_ (done_of HT_.out (by kernel_rfl)) ?_
    go_wp2
    go_ret
    exact ⟨rfl, HB5.out.trans (HQ2.out.mono HB5.out.size)⟩
end Go.Proofs.YtmbkmfdmpimegaaDoor
