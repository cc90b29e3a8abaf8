/-
  The walk of the intake's look: is an event wrong, or a double? The walk of the intake's take: an event is put in. The walk of the intake's Offer.
-/
import Derived.Test.YtmmfoeckggpgdaaGreatDoorJ4
set_option linter.unusedSimpArgs false
set_option linter.unusedVariables false
namespace Go.Proofs.YtmmfoeckggpgdaaGreatDoor
open Go.RowKit Go.Lib Go.Maps Go.Proofs.YtmmfoeckggpgdaaGreatDoorW.PrintWords Go.Proofs.YtmmfoeckggpgdaaGreatDoorW.PrintLast

theorem zero_bool (w : World) : (zeroValue 4).run Tryz.prog w = .ok (boolV false) w := by kernel_rfl
def regO_1.T : Bool × List (List Nat × List Nat) := (true, [([], []), ([0], [0]), ([1], [1]), ([2, 1], [2]), ([3], [3]), ([4, 3], [3, 4]), ([5, 3], [3, 5]), ([6, 3], [3, 6]), ([3], [3]), ([8, 3], [3, 8]), ([7, 9, 3], [3, 7, 9]), ([10, 3, 3], [3, 10]), ([11], [11]), ([12, 11], [11, 12]), ([13, 11], [11, 13]), ([11, 14, 3], [3, 11, 14]), ([3, 15], [3, 15]), ([16, 11], [16]), ([17], [17]), ([18, 17], [17, 18]), ([19, 17], [17, 19]), ([20, 17], [17, 20]), ([21, 17], [17, 21]), ([22, 17], [17, 22]), ([17, 23], [17, 23]), ([24, 17], [24])])
def regO_1.B : List Nat := [0, 1, 3, 7, 15, 31, 63, 127, 15, 271, 1023, 2047, 4095, 8191, 16383, 32767, 65535, 131071, 262143, 524287, 1048575, 2097151, 4194303, 8388607, 16777215, 33554431]
theorem regO_1.tab : rtab .any (opsOf Tryz.f51 1) = regO_1.T := by kernel_rfl
theorem regO_1.bits : waitsOk regO_1.T.2 regO_1.B = true := by kernel_rfl
set_option maxHeartbeats 4000000 in
set_option maxRecDepth 100000 in
theorem look_calls (base : Nat) (y : Lay) (x : In) (e : Ev) (m : Int) (w : World) (h : InAt w base y x) (hm : w.cell? ⟨0, 0, none⟩ = some (.int .i64 m)) (htx : e.text.size < 4294967281) (hps : e.person.size ≤ maxLen) (hss : e.source.size ≤ maxLen) (hn : y.sn ≤ 1000000000) (hlen : x.taken.length < 1048576) :
    Calls Tryz.prog 51 #[.pointer (some ⟨y.g, 0, none⟩), evV e] w fun r W => r = .returned (.int .i64 (lookB x e)) ∧ Below w.heap.size w W := by
  obtain ⟨s0, s1, s2, s3, s4, s5, s6, s7⟩ := e
  obtain ⟨A, c, hv, hnc, hcm, _⟩ := h.taken.form
  have hc63 : c ≤ 9223372036854775807 := by unfold maxLen at hcm; omega
  obtain ⟨n, hnn⟩ : ∃ n, n = x.taken.length := ⟨_, rfl⟩
  rw [← hnn] at hv hnc hlen
  obtain ⟨wA, hwA⟩ : ∃ wA, wA = w.alloc (.cells (evC ⟨s0, s1, s2, s3, s4, s5, s6, s7⟩).toArray 28) := ⟨_, rfl⟩
  have HBox : Aside0 (EvRd wA w.heap.size 0 ⟨s0, s1, s2, s3, s4, s5, s6, s7⟩) := ⟨by rw [hwA]; exact boxed w _⟩
  have HwA : Aside0 (Below w.heap.size w wA) := ⟨by rw [hwA]; exact below_alloc (Below.refl _ _) _⟩
  have HBA : Aside0 (∀ W, Below wA.heap.size wA W → Below w.heap.size w W) := ⟨fun W h => HwA.out.trans (h.mono HwA.out.size)⟩
  have H := Aside0.mk (h.below HwA.out)
  have hmA : ∀ W, Below wA.heap.size wA W → W.cell? ⟨0, 0, none⟩ = some (.int .i64 m) := fun W hW => pw_cell_below (HBA.out W hW) hm
  obtain ⟨qm, hqm⟩ : ∃ qm, qm = mayB ⟨s0, s1, s2, s3, s4, s5, s6, s7⟩ := ⟨_, rfl⟩
  have hmay : Calls Tryz.prog 96 #[evV ⟨s0, s1, s2, s3, s4, s5, s6, s7⟩] wA.drew fun e w' => e = .returned (.bool qm) ∧ Below wA.drew.heap.size wA.drew w' := by
    rw [hqm]; exact may_calls _ m _ htx (hmA _ (below_drew (Below.refl _ _)))
  have HMay := Aside0.mk hmay
  obtain ⟨qg, hqg⟩ : ∃ qg, qg = (getL x.gone s4).getD false := ⟨_, rfl⟩
  have HLk : Aside0 (∀ W, Below wA.heap.size wA W → (Instr.lookup 89 (.map (some y.mb)) (.string s4) false).run Tryz.prog W = .ok (.bool qg) W) := ⟨fun W hW => by
    have h8 := (H.out.gone.move (hW.block _ H.out.gone.lt)).look Tryz.underlying9 Tryz.underlying89 (z := false) (zero_bool W) hps
    rw [← hqg] at h8; exact h8⟩
  have HHas : Aside0 (∀ W, Below wA.heap.size wA W → Calls Tryz.prog 97 #[.pointer (some ⟨y.sg, 0, none⟩), .string s0, .int .i64 s1] W.drew fun e w' => e = .returned (.bool (hasS x.had s0 s1)) ∧ Below W.drew.heap.size W.drew w') := ⟨fun W hW => has_calls base _ _ _ _ s0 s1 W.drew (H.out.had.below hW.drew) hss (by omega)⟩
  have HQ := Aside0.mk (And.intro hqm hqg)
  have HP : Aside0 (∀ W, Below wA.heap.size wA W → W.cell? ⟨y.g, 1, none⟩ = some (.pointer (some ⟨y.sg, 0, none⟩))) := ⟨fun W hW => blk_cell ((H.out.below hW).blk) 1⟩
  obtain ⟨p0, p1, p2, p3, p4, ps⟩ := five H.out.blk
  rw [hv] at p2
  obtain ⟨c0, c1, c2, c3, c4, c5, c6, c7⟩ := HBox.out
  simp only [Nat.zero_add] at c0 c1 c2 c3 c4 c5 c6 c7
  have HWA := Aside0.mk hwA
  have HQ0 : Aside0 (decide ((1048576 : Int) ≤ (n : Int)) = false) := ⟨decide_eq_false (by omega)⟩
  have HN := Aside0.mk (And.intro hnn hlen)
  clear h hm htx hps hss hn hmA hmay hqm hqg hwA p0 p1 p3 ps hnn hlen hv hcm
  unfold evV
  go_enter Tryz.func51, Tryz.ntmps51
  go_wp2_with fail
  rw [show (w.alloc (.cells (evC ⟨s0, s1, s2, s3, s4, s5, s6, s7⟩).toArray 28)) = wA from HWA.out.symm]
  cases qm
  · have HF : Aside0 (lookB x ⟨s0, s1, s2, s3, s4, s5, s6, s7⟩ = 3) := ⟨by unfold lookB; rw [← HQ.out.1]; rfl⟩
    refine start_ (n := 26) (S := fun W => W.cell? ⟨w.heap.size, 0, none⟩ = some (.string s0) ∧ W.cell? ⟨w.heap.size, 1, none⟩ = some (.int .i64 s1) ∧ W.cell? ⟨w.heap.size, 2, none⟩ = some (.int .i64 s2) ∧ W.cell? ⟨w.heap.size, 3, none⟩ = some (.int .i64 s3) ∧ W.cell? ⟨w.heap.size, 4, none⟩ = some (.string s4) ∧ W.cell? ⟨w.heap.size, 5, none⟩ = some (.string s5) ∧ W.cell? ⟨w.heap.size, 6, none⟩ = some (.int .i64 s6) ∧ W.cell? ⟨w.heap.size, 7, none⟩ = some (.string s7) ∧ W.cell? ⟨y.g, 2, none⟩ = some (.slice A n c) ∧ W.cell? ⟨y.g, 4, none⟩ = some (.map (some y.mb))) (ds := []) #[false, false, false, false, false, false, false, false, false, false, false, false, false, false, false, false, false, false, false, false, false, false, false, false, false, false] (by kernel_rfl) rfl rfl ⟨c0, c1, c2, c3, c4, c5, c6, c7, p2, p4⟩ (fun hHeld => ?_)
    refine with_tabW regO_1.tab regO_1.bits (fun HT_ HW_ => ?_)
    refine take_ (i := 0) (N := (some 6)) (v := ?_) (a' := ?_) #[true, false, false, false, false, false, false, false, false, false, false, false, false, false, false, false, false, false, false, false, false, false, false, false, false, false] rfl rfl (take_ofW HT_.out HW_.out (by kernel_rfl)) (fun _ _ _ h => h) (Or.inl ⟨by rfl, ?_⟩) hHeld ?_ ?_
    rotate_left
    · rintro w' ⟨c0, c1, c2, c3, c4, c5, c6, c7, p2, p4⟩
      go_simp
      with_reducible rfl
    rotate_left
    · simp only [Act.put, List.setIfInBounds_toArray, List.set_cons_zero, List.set_cons_succ, i64_w, i32_w]
      rfl
    refine one_ (i := 1) (N := (some 7)) #[true, true, false, false, false, false, false, false, false, false, false, false, false, false, false, false, false, false, false, false, false, false, false, false, false, false] rfl rfl (one_of HT_.out (by kernel_rfl)) (by decide) (fun K hK => ?_)
    refine goes_ Tryz.func96 (by kernel_rfl) rfl #[evV ⟨s0, s1, s2, s3, s4, s5, s6, s7⟩] (by rfl) rfl rfl (by (try simp only [List.map_toArray, List.map_cons, List.map_nil]); first | done | rfl) ?_
    refine (HMay.out).mono ?_
    rintro r w2 ⟨rfl, hb2⟩
    refine ⟨_, rfl, ?_⟩
    have HB2 := Aside0.mk ((below_drew (Below.refl wA.heap.size wA)).trans (hb2.mono (Nat.le_refl _)))
    obtain ⟨d0, d1, d2, d3, d4, d5, d6, d7⟩ := HBox.out.below HB2.out
    simp only [Nat.zero_add] at d0 d1 d2 d3 d4 d5 d6 d7
    have q2 := pw_cell_below HB2.out p2
    have q4 := pw_cell_below HB2.out p4
    clear hb2 c0 c1 c2 c3 c4 c5 c6 c7 p2 p4
    refine hK.out _ _ ⟨d0, d1, d2, d3, d4, d5, d6, d7, q2, q4⟩ (fun hHeld => ?_)
    clear hK K
    refine norm_ (a' := ?_) ?_ ?_
    rotate_left
    · show Act.put _ (some 7) _ = _
      simp only [Act.put, List.setIfInBounds_toArray, List.set_cons_zero, List.set_cons_succ, i64_w, i32_w]
      rfl
    refine pure_ (i := 2) (N := (some 8)) (v := ?_) (a' := ?_) #[true, true, true, false, false, false, false, false, false, false, false, false, false, false, false, false, false, false, false, false, false, false, false, false, false, false] rfl rfl (any_of HT_.out (by kernel_rfl)) (fun _ _ _ h => h) (Or.inl ⟨by rfl, ?_⟩) ?_ ?_
    rotate_left
    · intro w'
      go_simp
      with_reducible rfl
    rotate_left
    · simp only [Act.put, List.setIfInBounds_toArray, List.set_cons_zero, List.set_cons_succ, i64_w, i32_w]
      rfl
    refine pure_ (i := 3) (N := (some 9)) (v := ?_) (a' := ?_) #[true, true, true, true, false, false, false, false, false, false, false, false, false, false, false, false, false, false, false, false, false, false, false, false, false, false] rfl rfl (any_of HT_.out (by kernel_rfl)) (fun _ _ _ h => h) (Or.inl ⟨by rfl, ?_⟩) ?_ ?_
    rotate_left
    · intro w'
      go_simp
      with_reducible rfl
    rotate_left
    · simp only [Act.put, List.setIfInBounds_toArray, List.set_cons_zero, List.set_cons_succ, i64_w, i32_w]
      rfl
    refine pure_ (i := 4) (N := (some 10)) (v := undef) (a' := ?_) #[true, true, true, true, true, false, false, false, false, false, false, false, false, false, false, false, false, false, false, false, false, false, false, false, false, false] rfl rfl (any_of HT_.out (by kernel_rfl)) (fun _ _ _ h => h) (Or.inr ⟨by rfl, rfl⟩) ?_ ?_
    rotate_left
    · simp only [Act.put, List.setIfInBounds_toArray, List.set_cons_zero, List.set_cons_succ, i64_w, i32_w]
      rfl
    refine pure_ (i := 5) (N := (some 11)) (v := undef) (a' := ?_) #[true, true, true, true, true, true, false, false, false, false, false, false, false, false, false, false, false, false, false, false, false, false, false, false, false, false] rfl rfl (any_of HT_.out (by kernel_rfl)) (fun _ _ _ h => h) (Or.inr ⟨by rfl, rfl⟩) ?_ ?_
    rotate_left
    · simp only [Act.put, List.setIfInBounds_toArray, List.set_cons_zero, List.set_cons_succ, i64_w, i32_w]
      rfl
    refine pure_ (i := 6) (N := (some 12)) (v := undef) (a' := ?_) #[true, true, true, true, true, true, true, false, false, false, false, false, false, false, false, false, false, false, false, false, false, false, false, false, false, false] rfl rfl (any_of HT_.out (by kernel_rfl)) (fun _ _ _ h => h) (Or.inr ⟨by rfl, rfl⟩) ?_ ?_
    rotate_left
    · simp only [Act.put, List.setIfInBounds_toArray, List.set_cons_zero, List.set_cons_succ, i64_w, i32_w]
      rfl
    refine pure_ (i := 7) (N := (some 13)) (v := undef) (a' := ?_) #[true, true, true, true, true, true, true, true, false, false, false, false, false, false, false, false, false, false, false, false, false, false, false, false, false, false] rfl rfl (any_of HT_.out (by kernel_rfl)) (fun _ _ _ h => h) (Or.inr ⟨by rfl, rfl⟩) ?_ ?_
    rotate_left
    · simp only [Act.put, List.setIfInBounds_toArray, List.set_cons_zero, List.set_cons_succ, i64_w, i32_w]
      rfl
    refine pure_ (i := 8) (N := (some 14)) (v := undef) (a' := ?_) #[true, true, true, true, true, true, true, true, true, false, false, false, false, false, false, false, false, false, false, false, false, false, false, false, false, false] rfl rfl (any_of HT_.out (by kernel_rfl)) (fun _ _ _ h => h) (Or.inr ⟨by rfl, rfl⟩) ?_ ?_
    rotate_left
    · simp only [Act.put, List.setIfInBounds_toArray, List.set_cons_zero, List.set_cons_succ, i64_w, i32_w]
      rfl
    refine pure_ (i := 9) (N := (some 15)) (v := undef) (a' := ?_) #[true, true, true, true, true, true, true, true, true, true, false, false, false, false, false, false, false, false, false, false, false, false, false, false, false, false] rfl rfl (any_of HT_.out (by kernel_rfl)) (fun _ _ _ h => h) (Or.inr ⟨by rfl, rfl⟩) ?_ ?_
    rotate_left
    · simp only [Act.put, List.setIfInBounds_toArray, List.set_cons_zero, List.set_cons_succ, i64_w, i32_w]
      rfl
    refine pure_ (i := 10) (N := (some 16)) (v := undef) (a' := ?_) #[true, true, true, true, true, true, true, true, true, true, true, false, false, false, false, false, false, false, false, false, false, false, false, false, false, false] rfl rfl (any_of HT_.out (by kernel_rfl)) (fun _ _ _ h => h) (Or.inr ⟨by rfl, rfl⟩) ?_ ?_
    rotate_left
    · simp only [Act.put, List.setIfInBounds_toArray, List.set_cons_zero, List.set_cons_succ, i64_w, i32_w]
      rfl
    refine pure_ (i := 11) (N := (some 17)) (v := undef) (a' := ?_) #[true, true, true, true, true, true, true, true, true, true, true, true, false, false, false, false, false, false, false, false, false, false, false, false, false, false] rfl rfl (any_of HT_.out (by kernel_rfl)) (fun _ _ _ h => h) (Or.inr ⟨by rfl, rfl⟩) ?_ ?_
    rotate_left
    · simp only [Act.put, List.setIfInBounds_toArray, List.set_cons_zero, List.set_cons_succ, i64_w, i32_w]
      rfl
    refine pure_ (i := 12) (N := (some 18)) (v := undef) (a' := ?_) #[true, true, true, true, true, true, true, true, true, true, true, true, true, false, false, false, false, false, false, false, false, false, false, false, false, false] rfl rfl (any_of HT_.out (by kernel_rfl)) (fun _ _ _ h => h) (Or.inr ⟨by rfl, rfl⟩) ?_ ?_
    rotate_left
    · simp only [Act.put, List.setIfInBounds_toArray, List.set_cons_zero, List.set_cons_succ, i64_w, i32_w]
      rfl
    refine pure_ (i := 13) (N := (some 19)) (v := undef) (a' := ?_) #[true, true, true, true, true, true, true, true, true, true, true, true, true, true, false, false, false, false, false, false, false, false, false, false, false, false] rfl rfl (any_of HT_.out (by kernel_rfl)) (fun _ _ _ h => h) (Or.inr ⟨by rfl, rfl⟩) ?_ ?_
    rotate_left
    · simp only [Act.put, List.setIfInBounds_toArray, List.set_cons_zero, List.set_cons_succ, i64_w, i32_w]
      rfl
    refine pure_ (i := 14) (N := (some 20)) (v := undef) (a' := ?_) #[true, true, true, true, true, true, true, true, true, true, true, true, true, true, true, false, false, false, false, false, false, false, false, false, false, false] rfl rfl (any_of HT_.out (by kernel_rfl)) (fun _ _ _ h => h) (Or.inr ⟨by rfl, rfl⟩) ?_ ?_
    rotate_left
    · simp only [Act.put, List.setIfInBounds_toArray, List.set_cons_zero, List.set_cons_succ, i64_w, i32_w]
      rfl
    refine pure_ (i := 15) (N := (some 21)) (v := undef) (a' := ?_) #[true, true, true, true, true, true, true, true, true, true, true, true, true, true, true, true, false, false, false, false, false, false, false, false, false, false] rfl rfl (any_of HT_.out (by kernel_rfl)) (fun _ _ _ h => h) (Or.inr ⟨by rfl, rfl⟩) ?_ ?_
    rotate_left
    · simp only [Act.put, List.setIfInBounds_toArray, List.set_cons_zero, List.set_cons_succ, i64_w, i32_w]
      rfl
    refine pure_ (i := 16) (N := (some 22)) (v := ?_) (a' := ?_) #[true, true, true, true, true, true, true, true, true, true, true, true, true, true, true, true, true, false, false, false, false, false, false, false, false, false] rfl rfl (any_of HT_.out (by kernel_rfl)) (fun _ _ _ h => h) (Or.inl ⟨by rfl, ?_⟩) ?_ ?_
    rotate_left
    · intro w'
      go_simp
      with_reducible rfl
    rotate_left
    · simp only [Act.put, List.setIfInBounds_toArray, List.set_cons_zero, List.set_cons_succ, i64_w, i32_w]
      rfl
    refine pure_ (i := 17) (N := (some 23)) (v := ?_) (a' := ?_) #[true, true, true, true, true, true, true, true, true, true, true, true, true, true, true, true, true, true, false, false, false, false, false, false, false, false] rfl rfl (any_of HT_.out (by kernel_rfl)) (fun _ _ _ h => h) (Or.inl ⟨by rfl, ?_⟩) ?_ ?_
    rotate_left
    · intro w'
      go_simp
      with_reducible rfl
    rotate_left
    · simp only [Act.put, List.setIfInBounds_toArray, List.set_cons_zero, List.set_cons_succ, i64_w, i32_w]
      rfl
    refine pure_ (i := 18) (N := (some 24)) (v := undef) (a' := ?_) #[true, true, true, true, true, true, true, true, true, true, true, true, true, true, true, true, true, true, true, false, false, false, false, false, false, false] rfl rfl (any_of HT_.out (by kernel_rfl)) (fun _ _ _ h => h) (Or.inr ⟨by rfl, rfl⟩) ?_ ?_
    rotate_left
    · simp only [Act.put, List.setIfInBounds_toArray, List.set_cons_zero, List.set_cons_succ, i64_w, i32_w]
      rfl
    refine pure_ (i := 19) (N := (some 25)) (v := undef) (a' := ?_) #[true, true, true, true, true, true, true, true, true, true, true, true, true, true, true, true, true, true, true, true, false, false, false, false, false, false] rfl rfl (any_of HT_.out (by kernel_rfl)) (fun _ _ _ h => h) (Or.inr ⟨by rfl, rfl⟩) ?_ ?_
    rotate_left
    · simp only [Act.put, List.setIfInBounds_toArray, List.set_cons_zero, List.set_cons_succ, i64_w, i32_w]
      rfl
    refine pure_ (i := 20) (N := (some 26)) (v := undef) (a' := ?_) #[true, true, true, true, true, true, true, true, true, true, true, true, true, true, true, true, true, true, true, true, true, false, false, false, false, false] rfl rfl (any_of HT_.out (by kernel_rfl)) (fun _ _ _ h => h) (Or.inr ⟨by rfl, rfl⟩) ?_ ?_
    rotate_left
    · simp only [Act.put, List.setIfInBounds_toArray, List.set_cons_zero, List.set_cons_succ, i64_w, i32_w]
      rfl
    refine pure_ (i := 21) (N := (some 27)) (v := undef) (a' := ?_) #[true, true, true, true, true, true, true, true, true, true, true, true, true, true, true, true, true, true, true, true, true, true, false, false, false, false] rfl rfl (any_of HT_.out (by kernel_rfl)) (fun _ _ _ h => h) (Or.inr ⟨by rfl, rfl⟩) ?_ ?_
    rotate_left
    · simp only [Act.put, List.setIfInBounds_toArray, List.set_cons_zero, List.set_cons_succ, i64_w, i32_w]
      rfl
    refine pure_ (i := 22) (N := (some 28)) (v := undef) (a' := ?_) #[true, true, true, true, true, true, true, true, true, true, true, true, true, true, true, true, true, true, true, true, true, true, true, false, false, false] rfl rfl (any_of HT_.out (by kernel_rfl)) (fun _ _ _ h => h) (Or.inr ⟨by rfl, rfl⟩) ?_ ?_
    rotate_left
    · simp only [Act.put, List.setIfInBounds_toArray, List.set_cons_zero, List.set_cons_succ, i64_w, i32_w]
      rfl
    refine pure_ (i := 23) (N := (some 29)) (v := undef) (a' := ?_) #[true, true, true, true, true, true, true, true, true, true, true, true, true, true, true, true, true, true, true, true, true, true, true, true, false, false] rfl rfl (any_of HT_.out (by kernel_rfl)) (fun _ _ _ h => h) (Or.inr ⟨by rfl, rfl⟩) ?_ ?_
    rotate_left
    · simp only [Act.put, List.setIfInBounds_toArray, List.set_cons_zero, List.set_cons_succ, i64_w, i32_w]
      rfl
    refine pure_ (i := 24) (N := (some 30)) (v := ?_) (a' := ?_) #[true, true, true, true, true, true, true, true, true, true, true, true, true, true, true, true, true, true, true, true, true, true, true, true, true, false] rfl rfl (any_of HT_.out (by kernel_rfl)) (fun _ _ _ h => h) (Or.inl ⟨by rfl, ?_⟩) ?_ ?_
    rotate_left
    · intro w'
      go_simp
      with_reducible rfl
    rotate_left
    · simp only [Act.put, List.setIfInBounds_toArray, List.set_cons_zero, List.set_cons_succ, i64_w, i32_w]
      rfl
    refine pure_ (i := 25) (N := (some 5)) (v := ?_) (a' := ?_) #[true, true, true, true, true, true, true, true, true, true, true, true, true, true, true, true, true, true, true, true, true, true, true, true, true, true] rfl rfl (any_of HT_.out (by kernel_rfl)) (fun _ _ _ h => h) (Or.inl ⟨by rfl, ?_⟩) ?_ ?_
    rotate_left
    · intro w'
      go_simp
      with_reducible rfl
    rotate_left
    · simp only [Act.put, List.setIfInBounds_toArray, List.set_cons_zero, List.set_cons_succ, i64_w, i32_w]
      rfl
    refine done_ (done_of HT_.out (by kernel_rfl)) ?_
    go_wp2
    go_ret
    exact ⟨by rw [HF.out]; rfl, HBA.out _ HB2.out⟩
  cases qg
  · have HOk : Aside0 ((mayB ⟨s0, s1, s2, s3, s4, s5, s6, s7⟩ && !((getL x.gone s4).getD false && (s3 != 14))) = true) := ⟨by rw [← HQ.out.1, ← HQ.out.2]; rfl⟩
    refine start_ (n := 26) (S := fun W => W.cell? ⟨w.heap.size, 0, none⟩ = some (.string s0) ∧ W.cell? ⟨w.heap.size, 1, none⟩ = some (.int .i64 s1) ∧ W.cell? ⟨w.heap.size, 2, none⟩ = some (.int .i64 s2) ∧ W.cell? ⟨w.heap.size, 3, none⟩ = some (.int .i64 s3) ∧ W.cell? ⟨w.heap.size, 4, none⟩ = some (.string s4) ∧ W.cell? ⟨w.heap.size, 5, none⟩ = some (.string s5) ∧ W.cell? ⟨w.heap.size, 6, none⟩ = some (.int .i64 s6) ∧ W.cell? ⟨w.heap.size, 7, none⟩ = some (.string s7) ∧ W.cell? ⟨y.g, 2, none⟩ = some (.slice A n c) ∧ W.cell? ⟨y.g, 4, none⟩ = some (.map (some y.mb))) (ds := []) #[false, false, false, false, false, false, false, false, false, false, false, false, false, false, false, false, false, false, false, false, false, false, false, false, false, false] (by kernel_rfl) rfl rfl ⟨c0, c1, c2, c3, c4, c5, c6, c7, p2, p4⟩ (fun hHeld => ?_)
    refine with_tabW regO_1.tab regO_1.bits (fun HT_ HW_ => ?_)
    refine take_ (i := 0) (N := (some 6)) (v := ?_) (a' := ?_) #[true, false, false, false, false, false, false, false, false, false, false, false, false, false, false, false, false, false, false, false, false, false, false, false, false, false] rfl rfl (take_ofW HT_.out HW_.out (by kernel_rfl)) (fun _ _ _ h => h) (Or.inl ⟨by rfl, ?_⟩) hHeld ?_ ?_
    rotate_left
    · rintro w' ⟨c0, c1, c2, c3, c4, c5, c6, c7, p2, p4⟩
      go_simp
      with_reducible rfl
    rotate_left
    · simp only [Act.put, List.setIfInBounds_toArray, List.set_cons_zero, List.set_cons_succ, i64_w, i32_w]
      rfl
    refine one_ (i := 1) (N := (some 7)) #[true, true, false, false, false, false, false, false, false, false, false, false, false, false, false, false, false, false, false, false, false, false, false, false, false, false] rfl rfl (one_of HT_.out (by kernel_rfl)) (by decide) (fun K hK => ?_)
    refine goes_ Tryz.func96 (by kernel_rfl) rfl #[evV ⟨s0, s1, s2, s3, s4, s5, s6, s7⟩] (by rfl) rfl rfl (by (try simp only [List.map_toArray, List.map_cons, List.map_nil]); first | done | rfl) ?_
    refine (HMay.out).mono ?_
    rintro r w2 ⟨rfl, hb2⟩
    refine ⟨_, rfl, ?_⟩
    have HB2 := Aside0.mk ((below_drew (Below.refl wA.heap.size wA)).trans (hb2.mono (Nat.le_refl _)))
    obtain ⟨d0, d1, d2, d3, d4, d5, d6, d7⟩ := HBox.out.below HB2.out
    simp only [Nat.zero_add] at d0 d1 d2 d3 d4 d5 d6 d7
    have q2 := pw_cell_below HB2.out p2
    have q4 := pw_cell_below HB2.out p4
    have hlk := HLk.out w2 HB2.out
    clear hb2 c0 c1 c2 c3 c4 c5 c6 c7 p2 p4
    refine hK.out _ _ ⟨d0, d1, d2, d3, d4, d5, d6, d7, q2, q4⟩ (fun hHeld => ?_)
    clear hK K
    refine norm_ (a' := ?_) ?_ ?_
    rotate_left
    · show Act.put _ (some 7) _ = _
      simp only [Act.put, List.setIfInBounds_toArray, List.set_cons_zero, List.set_cons_succ, i64_w, i32_w]
      rfl
    refine pure_ (i := 2) (N := (some 8)) (v := ?_) (a' := ?_) #[true, true, true, false, false, false, false, false, false, false, false, false, false, false, false, false, false, false, false, false, false, false, false, false, false, false] rfl rfl (any_of HT_.out (by kernel_rfl)) (fun _ _ _ h => h) (Or.inl ⟨by rfl, ?_⟩) ?_ ?_
    rotate_left
    · intro w'
      go_simp
      with_reducible rfl
    rotate_left
    · simp only [Act.put, List.setIfInBounds_toArray, List.set_cons_zero, List.set_cons_succ, i64_w, i32_w]
      rfl
    refine pure_ (i := 3) (N := (some 9)) (v := ?_) (a' := ?_) #[true, true, true, true, false, false, false, false, false, false, false, false, false, false, false, false, false, false, false, false, false, false, false, false, false, false] rfl rfl (any_of HT_.out (by kernel_rfl)) (fun _ _ _ h => h) (Or.inl ⟨by rfl, ?_⟩) ?_ ?_
    rotate_left
    · intro w'
      go_simp
      with_reducible rfl
    rotate_left
    · simp only [Act.put, List.setIfInBounds_toArray, List.set_cons_zero, List.set_cons_succ, i64_w, i32_w]
      rfl
    refine pure_ (i := 4) (N := (some 10)) (v := ?_) (a' := ?_) #[true, true, true, true, true, false, false, false, false, false, false, false, false, false, false, false, false, false, false, false, false, false, false, false, false, false] rfl rfl (any_of HT_.out (by kernel_rfl)) (fun _ _ _ h => h) (Or.inl ⟨by rfl, ?_⟩) ?_ ?_
    rotate_left
    · intro w'
      go_simp
      with_reducible rfl
    rotate_left
    · simp only [Act.put, List.setIfInBounds_toArray, List.set_cons_zero, List.set_cons_succ, i64_w, i32_w]
      rfl
    refine pure_ (i := 5) (N := (some 11)) (v := ?_) (a' := ?_) #[true, true, true, true, true, true, false, false, false, false, false, false, false, false, false, false, false, false, false, false, false, false, false, false, false, false] rfl rfl (any_of HT_.out (by kernel_rfl)) (fun _ _ _ h => h) (Or.inl ⟨by rfl, ?_⟩) ?_ ?_
    rotate_left
    · intro w'
      go_simp
      with_reducible rfl
    rotate_left
    · simp only [Act.put, List.setIfInBounds_toArray, List.set_cons_zero, List.set_cons_succ, i64_w, i32_w]
      rfl
    refine pure_ (i := 6) (N := (some 12)) (v := ?_) (a' := ?_) #[true, true, true, true, true, true, true, false, false, false, false, false, false, false, false, false, false, false, false, false, false, false, false, false, false, false] rfl rfl (any_of HT_.out (by kernel_rfl)) (fun _ _ _ h => h) (Or.inl ⟨by rfl, ?_⟩) ?_ ?_
    rotate_left
    · intro w'
      go_simp
      with_reducible rfl
    rotate_left
    · simp only [Act.put, List.setIfInBounds_toArray, List.set_cons_zero, List.set_cons_succ, i64_w, i32_w]
      rfl
    refine pure_ (i := 8) (N := (some 14)) (v := ?_) (a' := ?_) #[true, true, true, true, true, true, true, false, true, false, false, false, false, false, false, false, false, false, false, false, false, false, false, false, false, false] rfl rfl (any_of HT_.out (by kernel_rfl)) (fun _ _ _ h => h) (Or.inl ⟨by rfl, ?_⟩) ?_ ?_
    rotate_left
    · intro w'
      go_simp
      with_reducible rfl
    rotate_left
    · simp only [Act.put, List.setIfInBounds_toArray, List.set_cons_zero, List.set_cons_succ, i64_w, i32_w]
      rfl
    refine take_ (i := 7) (N := (some 13)) (v := ?_) (a' := ?_) #[true, true, true, true, true, true, true, true, true, false, false, false, false, false, false, false, false, false, false, false, false, false, false, false, false, false] rfl rfl (take_ofW HT_.out HW_.out (by kernel_rfl)) (fun _ _ _ h => h) (Or.inl ⟨by rfl, ?_⟩) hHeld ?_ ?_
    rotate_left
    · rintro w' ⟨c0, c1, c2, c3, c4, c5, c6, c7, p2, p4⟩
      go_simp
      with_reducible rfl
    rotate_left
    · simp only [Act.put, List.setIfInBounds_toArray, List.set_cons_zero, List.set_cons_succ, i64_w, i32_w]
      rfl
    refine take_ (i := 9) (N := (some 15)) (v := ?_) (a' := ?_) #[true, true, true, true, true, true, true, true, true, true, false, false, false, false, false, false, false, false, false, false, false, false, false, false, false, false] rfl rfl (take_ofW HT_.out HW_.out (by kernel_rfl)) (fun _ _ _ h => h) (Or.inl ⟨by rfl, ?_⟩) hHeld ?_ ?_
    rotate_left
    · rintro w' ⟨c0, c1, c2, c3, c4, c5, c6, c7, p2, p4⟩
      go_simp
      with_reducible rfl
    rotate_left
    · simp only [Act.put, List.setIfInBounds_toArray, List.set_cons_zero, List.set_cons_succ, i64_w, i32_w]
      rfl
    refine one_ (i := 10) (N := (some 16)) #[true, true, true, true, true, true, true, true, true, true, true, false, false, false, false, false, false, false, false, false, false, false, false, false, false, false] rfl rfl (one_of HT_.out (by kernel_rfl)) (by decide) (fun K hK => ?_)
    refine event_step (v := .bool false) (w1 := w2) (by rfl) (by first | (go_simp; done) | (go_simp; rfl)) ?_
    clear hlk
    refine hK.out _ _ ⟨d0, d1, d2, d3, d4, d5, d6, d7, q2, q4⟩ (fun hHeld => ?_)
    clear hK K
    refine norm_ (a' := ?_) ?_ ?_
    rotate_left
    · show Act.put _ (some 16) _ = _
      simp only [Act.put, List.setIfInBounds_toArray, List.set_cons_zero, List.set_cons_succ, i64_w, i32_w]
      rfl
    refine pure_ (i := 11) (N := (some 17)) (v := ?_) (a' := ?_) #[true, true, true, true, true, true, true, true, true, true, true, true, false, false, false, false, false, false, false, false, false, false, false, false, false, false] rfl rfl (any_of HT_.out (by kernel_rfl)) (fun _ _ _ h => h) (Or.inl ⟨by rfl, ?_⟩) ?_ ?_
    rotate_left
    · intro w'
      go_simp
      with_reducible rfl
    rotate_left
    · simp only [Act.put, List.setIfInBounds_toArray, List.set_cons_zero, List.set_cons_succ, i64_w, i32_w]
      rfl
    refine pure_ (i := 12) (N := (some 18)) (v := undef) (a' := ?_) #[true, true, true, true, true, true, true, true, true, true, true, true, true, false, false, false, false, false, false, false, false, false, false, false, false, false] rfl rfl (any_of HT_.out (by kernel_rfl)) (fun _ _ _ h => h) (Or.inr ⟨by rfl, rfl⟩) ?_ ?_
    rotate_left
    · simp only [Act.put, List.setIfInBounds_toArray, List.set_cons_zero, List.set_cons_succ, i64_w, i32_w]
      rfl
    refine pure_ (i := 13) (N := (some 19)) (v := undef) (a' := ?_) #[true, true, true, true, true, true, true, true, true, true, true, true, true, true, false, false, false, false, false, false, false, false, false, false, false, false] rfl rfl (any_of HT_.out (by kernel_rfl)) (fun _ _ _ h => h) (Or.inr ⟨by rfl, rfl⟩) ?_ ?_
    rotate_left
    · simp only [Act.put, List.setIfInBounds_toArray, List.set_cons_zero, List.set_cons_succ, i64_w, i32_w]
      rfl
    refine pure_ (i := 14) (N := (some 20)) (v := undef) (a' := ?_) #[true, true, true, true, true, true, true, true, true, true, true, true, true, true, true, false, false, false, false, false, false, false, false, false, false, false] rfl rfl (any_of HT_.out (by kernel_rfl)) (fun _ _ _ h => h) (Or.inr ⟨by rfl, rfl⟩) ?_ ?_
    rotate_left
    · simp only [Act.put, List.setIfInBounds_toArray, List.set_cons_zero, List.set_cons_succ, i64_w, i32_w]
      rfl
    refine pure_ (i := 15) (N := (some 21)) (v := ?_) (a' := ?_) #[true, true, true, true, true, true, true, true, true, true, true, true, true, true, true, true, false, false, false, false, false, false, false, false, false, false] rfl rfl (any_of HT_.out (by kernel_rfl)) (fun _ _ _ h => h) (Or.inl ⟨by rfl, ?_⟩) ?_ ?_
    rotate_left
    · intro w'
      go_simp
      with_reducible rfl
    rotate_left
    · simp only [Act.put, List.setIfInBounds_toArray, List.set_cons_zero, List.set_cons_succ, i64_w, i32_w]
      rfl
    refine pure_ (i := 16) (N := (some 22)) (v := ?_) (a' := ?_) #[true, true, true, true, true, true, true, true, true, true, true, true, true, true, true, true, true, false, false, false, false, false, false, false, false, false] rfl rfl (any_of HT_.out (by kernel_rfl)) (fun _ _ _ h => h) (Or.inl ⟨by rfl, ?_⟩) ?_ ?_
    rotate_left
    · intro w'
      go_simp
      with_reducible rfl
    rotate_left
    · simp only [Act.put, List.setIfInBounds_toArray, List.set_cons_zero, List.set_cons_succ, i64_w, i32_w]
      rfl
    refine pure_ (i := 17) (N := (some 23)) (v := ?_) (a' := ?_) #[true, true, true, true, true, true, true, true, true, true, true, true, true, true, true, true, true, true, false, false, false, false, false, false, false, false] rfl rfl (any_of HT_.out (by kernel_rfl)) (fun _ _ _ h => h) (Or.inl ⟨by rfl, ?_⟩) ?_ ?_
    rotate_left
    · intro w'
      go_simp
      with_reducible rfl
    rotate_left
    · simp only [Act.put, List.setIfInBounds_toArray, List.set_cons_zero, List.set_cons_succ, i64_w, i32_w]
      rfl
    refine pure_ (i := 18) (N := (some 24)) (v := ?_) (a' := ?_) #[true, true, true, true, true, true, true, true, true, true, true, true, true, true, true, true, true, true, true, false, false, false, false, false, false, false] rfl rfl (any_of HT_.out (by kernel_rfl)) (fun _ _ _ h => h) (Or.inl ⟨by rfl, ?_⟩) ?_ ?_
    rotate_left
    · intro w'
      go_simp
      with_reducible rfl
    rotate_left
    · simp only [Act.put, List.setIfInBounds_toArray, List.set_cons_zero, List.set_cons_succ, i64_w, i32_w]
      rfl
    refine pure_ (i := 19) (N := (some 25)) (v := ?_) (a' := ?_) #[true, true, true, true, true, true, true, true, true, true, true, true, true, true, true, true, true, true, true, true, false, false, false, false, false, false] rfl rfl (any_of HT_.out (by kernel_rfl)) (fun _ _ _ h => h) (Or.inl ⟨by rfl, ?_⟩) ?_ ?_
    rotate_left
    · intro w'
      go_simp
      with_reducible rfl
    rotate_left
    · simp only [Act.put, List.setIfInBounds_toArray, List.set_cons_zero, List.set_cons_succ, i64_w, i32_w]
      rfl
    refine pure_ (i := 20) (N := (some 26)) (v := ?_) (a' := ?_) #[true, true, true, true, true, true, true, true, true, true, true, true, true, true, true, true, true, true, true, true, true, false, false, false, false, false] rfl rfl (any_of HT_.out (by kernel_rfl)) (fun _ _ _ h => h) (Or.inl ⟨by rfl, ?_⟩) ?_ ?_
    rotate_left
    · intro w'
      go_simp
      with_reducible rfl
    rotate_left
    · simp only [Act.put, List.setIfInBounds_toArray, List.set_cons_zero, List.set_cons_succ, i64_w, i32_w]
      rfl
    refine take_ (i := 21) (N := (some 27)) (v := ?_) (a' := ?_) #[true, true, true, true, true, true, true, true, true, true, true, true, true, true, true, true, true, true, true, true, true, true, false, false, false, false] rfl rfl (take_ofW HT_.out HW_.out (by kernel_rfl)) (fun _ _ _ h => h) (Or.inl ⟨by rfl, ?_⟩) hHeld ?_ ?_
    rotate_left
    · rintro w' ⟨c0, c1, c2, c3, c4, c5, c6, c7, p2, p4⟩
      go_simp
      with_reducible rfl
    rotate_left
    · simp only [Act.put, List.setIfInBounds_toArray, List.set_cons_zero, List.set_cons_succ, i64_w, i32_w]
      rfl
    refine pure_ (i := 22) (N := (some 28)) (v := ?_) (a' := ?_) #[true, true, true, true, true, true, true, true, true, true, true, true, true, true, true, true, true, true, true, true, true, true, true, false, false, false] rfl rfl (any_of HT_.out (by kernel_rfl)) (fun _ _ _ h => h) (Or.inl ⟨by rfl, ?_⟩) ?_ ?_
    rotate_left
    · intro w'
      go_simp
      with_reducible rfl
    rotate_left
    · simp only [Act.put, List.setIfInBounds_toArray, List.set_cons_zero, List.set_cons_succ, i64_w, i32_w]
      rfl
    refine pure_ (i := 23) (N := (some 29)) (v := ?_) (a' := ?_) #[true, true, true, true, true, true, true, true, true, true, true, true, true, true, true, true, true, true, true, true, true, true, true, true, false, false] rfl rfl (any_of HT_.out (by kernel_rfl)) (fun _ _ _ h => h) (Or.inl ⟨by rfl, ?_⟩) ?_ ?_
    rotate_left
    · intro w'
      go_simp
      with_reducible rfl
    rotate_left
    · simp only [Act.put, List.setIfInBounds_toArray, List.set_cons_zero, List.set_cons_succ, i64_w, i32_w]
      rfl
    refine pure_ (i := 24) (N := (some 30)) (v := ?_) (a' := ?_) #[true, true, true, true, true, true, true, true, true, true, true, true, true, true, true, true, true, true, true, true, true, true, true, true, true, false] rfl rfl (any_of HT_.out (by kernel_rfl)) (fun _ _ _ h => h) (Or.inl ⟨by rfl, ?_⟩) ?_ ?_
    rotate_left
    · intro w'
      go_simp
      with_reducible rfl
    rotate_left
    · simp only [Act.put, List.setIfInBounds_toArray, List.set_cons_zero, List.set_cons_succ, i64_w, i32_w]
      rfl
    refine pure_ (i := 25) (N := (some 5)) (v := ?_) (a' := ?_) #[true, true, true, true, true, true, true, true, true, true, true, true, true, true, true, true, true, true, true, true, true, true, true, true, true, true] rfl rfl (any_of HT_.out (by kernel_rfl)) (fun _ _ _ h => h) (Or.inl ⟨by rfl, ?_⟩) ?_ ?_
    rotate_left
    · intro w'
      go_simp
      with_reducible rfl
    rotate_left
    · simp only [Act.put, List.setIfInBounds_toArray, List.set_cons_zero, List.set_cons_succ, i64_w, i32_w]
      rfl
    refine done_ (done_of HT_.out (by kernel_rfl)) ?_
    rw [show decide ((1048576 : Int) ≤ (n : Int)) = false from HQ0.out]
    have r1 := HP.out w2 HB2.out
    go_wp2_with fail
    go_still_tail 8, (by kernel_rfl)
    change wpList _ _ _ _ _ w2.drew
    go_wp2_with fail
    have HHw := Aside0.mk (HHas.out w2 HB2.out)
    refine HHw.out.mono ?_
    rintro r w3 ⟨rfl, hb3⟩
    have HB3 := Aside0.mk (HBA.out _ (HB2.out.drew.trans (hb3.mono HB2.out.drew.size)))
    clear hb3 d0 d1 d2 d3 d4 d5 d6 d7 q2 q4
    obtain ⟨hh, hhq⟩ : ∃ hh, hh = hasS x.had s0 s1 := ⟨_, rfl⟩
    rw [← hhq]
    have HHq := Aside0.mk hhq
    clear hhq
    cases hh
    · have HF : Aside0 (lookB x ⟨s0, s1, s2, s3, s4, s5, s6, s7⟩ = 0) := ⟨by unfold lookB; rw [if_pos HOk.out, ← HHq.out]; rfl⟩
      go_wp2
      go_ret
      exact ⟨by rw [HF.out]; rfl, HB3.out⟩
    · have HF : Aside0 (lookB x ⟨s0, s1, s2, s3, s4, s5, s6, s7⟩ = 1) := ⟨by unfold lookB; rw [if_pos HOk.out, ← HHq.out]; rfl⟩
      go_wp2
      go_ret
      exact ⟨by rw [HF.out]; rfl, HB3.out⟩
  by_cases hk : s3 = 14
  · subst hk
    have HOk : Aside0 ((mayB ⟨s0, s1, s2, 14, s4, s5, s6, s7⟩ && !((getL x.gone s4).getD false && ((14 : Int) != 14))) = true) := ⟨by rw [← HQ.out.1, ← HQ.out.2]; rfl⟩
    refine start_ (n := 26) (S := fun W => W.cell? ⟨w.heap.size, 0, none⟩ = some (.string s0) ∧ W.cell? ⟨w.heap.size, 1, none⟩ = some (.int .i64 s1) ∧ W.cell? ⟨w.heap.size, 2, none⟩ = some (.int .i64 s2) ∧ W.cell? ⟨w.heap.size, 3, none⟩ = some (.int .i64 14) ∧ W.cell? ⟨w.heap.size, 4, none⟩ = some (.string s4) ∧ W.cell? ⟨w.heap.size, 5, none⟩ = some (.string s5) ∧ W.cell? ⟨w.heap.size, 6, none⟩ = some (.int .i64 s6) ∧ W.cell? ⟨w.heap.size, 7, none⟩ = some (.string s7) ∧ W.cell? ⟨y.g, 2, none⟩ = some (.slice A n c) ∧ W.cell? ⟨y.g, 4, none⟩ = some (.map (some y.mb))) (ds := []) #[false, false, false, false, false, false, false, false, false, false, false, false, false, false, false, false, false, false, false, false, false, false, false, false, false, false] (by kernel_rfl) rfl rfl ⟨c0, c1, c2, c3, c4, c5, c6, c7, p2, p4⟩ (fun hHeld => ?_)
    refine with_tabW regO_1.tab regO_1.bits (fun HT_ HW_ => ?_)
    refine take_ (i := 0) (N := (some 6)) (v := ?_) (a' := ?_) #[true, false, false, false, false, false, false, false, false, false, false, false, false, false, false, false, false, false, false, false, false, false, false, false, false, false] rfl rfl (take_ofW HT_.out HW_.out (by kernel_rfl)) (fun _ _ _ h => h) (Or.inl ⟨by rfl, ?_⟩) hHeld ?_ ?_
    rotate_left
    · rintro w' ⟨c0, c1, c2, c3, c4, c5, c6, c7, p2, p4⟩
      go_simp
      with_reducible rfl
    rotate_left
    · simp only [Act.put, List.setIfInBounds_toArray, List.set_cons_zero, List.set_cons_succ, i64_w, i32_w]
      rfl
    refine one_ (i := 1) (N := (some 7)) #[true, true, false, false, false, false, false, false, false, false, false, false, false, false, false, false, false, false, false, false, false, false, false, false, false, false] rfl rfl (one_of HT_.out (by kernel_rfl)) (by decide) (fun K hK => ?_)
    refine goes_ Tryz.func96 (by kernel_rfl) rfl #[evV ⟨s0, s1, s2, 14, s4, s5, s6, s7⟩] (by rfl) rfl rfl (by (try simp only [List.map_toArray, List.map_cons, List.map_nil]); first | done | rfl) ?_
    refine (HMay.out).mono ?_
    rintro r w2 ⟨rfl, hb2⟩
    refine ⟨_, rfl, ?_⟩
    have HB2 := Aside0.mk ((below_drew (Below.refl wA.heap.size wA)).trans (hb2.mono (Nat.le_refl _)))
    obtain ⟨d0, d1, d2, d3, d4, d5, d6, d7⟩ := HBox.out.below HB2.out
    simp only [Nat.zero_add] at d0 d1 d2 d3 d4 d5 d6 d7
    have q2 := pw_cell_below HB2.out p2
    have q4 := pw_cell_below HB2.out p4
    have hlk := HLk.out w2 HB2.out
    clear hb2 c0 c1 c2 c3 c4 c5 c6 c7 p2 p4
    refine hK.out _ _ ⟨d0, d1, d2, d3, d4, d5, d6, d7, q2, q4⟩ (fun hHeld => ?_)
    clear hK K
    refine norm_ (a' := ?_) ?_ ?_
    rotate_left
    · show Act.put _ (some 7) _ = _
      simp only [Act.put, List.setIfInBounds_toArray, List.set_cons_zero, List.set_cons_succ, i64_w, i32_w]
      rfl
    refine pure_ (i := 2) (N := (some 8)) (v := ?_) (a' := ?_) #[true, true, true, false, false, false, false, false, false, false, false, false, false, false, false, false, false, false, false, false, false, false, false, false, false, false] rfl rfl (any_of HT_.out (by kernel_rfl)) (fun _ _ _ h => h) (Or.inl ⟨by rfl, ?_⟩) ?_ ?_
    rotate_left
    · intro w'
      go_simp
      with_reducible rfl
    rotate_left
    · simp only [Act.put, List.setIfInBounds_toArray, List.set_cons_zero, List.set_cons_succ, i64_w, i32_w]
      rfl
    refine pure_ (i := 3) (N := (some 9)) (v := ?_) (a' := ?_) #[true, true, true, true, false, false, false, false, false, false, false, false, false, false, false, false, false, false, false, false, false, false, false, false, false, false] rfl rfl (any_of HT_.out (by kernel_rfl)) (fun _ _ _ h => h) (Or.inl ⟨by rfl, ?_⟩) ?_ ?_
    rotate_left
    · intro w'
      go_simp
      with_reducible rfl
    rotate_left
    · simp only [Act.put, List.setIfInBounds_toArray, List.set_cons_zero, List.set_cons_succ, i64_w, i32_w]
      rfl
    refine pure_ (i := 4) (N := (some 10)) (v := ?_) (a' := ?_) #[true, true, true, true, true, false, false, false, false, false, false, false, false, false, false, false, false, false, false, false, false, false, false, false, false, false] rfl rfl (any_of HT_.out (by kernel_rfl)) (fun _ _ _ h => h) (Or.inl ⟨by rfl, ?_⟩) ?_ ?_
    rotate_left
    · intro w'
      go_simp
      with_reducible rfl
    rotate_left
    · simp only [Act.put, List.setIfInBounds_toArray, List.set_cons_zero, List.set_cons_succ, i64_w, i32_w]
      rfl
    refine pure_ (i := 5) (N := (some 11)) (v := ?_) (a' := ?_) #[true, true, true, true, true, true, false, false, false, false, false, false, false, false, false, false, false, false, false, false, false, false, false, false, false, false] rfl rfl (any_of HT_.out (by kernel_rfl)) (fun _ _ _ h => h) (Or.inl ⟨by rfl, ?_⟩) ?_ ?_
    rotate_left
    · intro w'
      go_simp
      with_reducible rfl
    rotate_left
    · simp only [Act.put, List.setIfInBounds_toArray, List.set_cons_zero, List.set_cons_succ, i64_w, i32_w]
      rfl
    refine pure_ (i := 6) (N := (some 12)) (v := ?_) (a' := ?_) #[true, true, true, true, true, true, true, false, false, false, false, false, false, false, false, false, false, false, false, false, false, false, false, false, false, false] rfl rfl (any_of HT_.out (by kernel_rfl)) (fun _ _ _ h => h) (Or.inl ⟨by rfl, ?_⟩) ?_ ?_
    rotate_left
    · intro w'
      go_simp
      with_reducible rfl
    rotate_left
    · simp only [Act.put, List.setIfInBounds_toArray, List.set_cons_zero, List.set_cons_succ, i64_w, i32_w]
      rfl
    refine pure_ (i := 8) (N := (some 14)) (v := ?_) (a' := ?_) #[true, true, true, true, true, true, true, false, true, false, false, false, false, false, false, false, false, false, false, false, false, false, false, false, false, false] rfl rfl (any_of HT_.out (by kernel_rfl)) (fun _ _ _ h => h) (Or.inl ⟨by rfl, ?_⟩) ?_ ?_
    rotate_left
    · intro w'
      go_simp
      with_reducible rfl
    rotate_left
    · simp only [Act.put, List.setIfInBounds_toArray, List.set_cons_zero, List.set_cons_succ, i64_w, i32_w]
      rfl
    refine take_ (i := 7) (N := (some 13)) (v := ?_) (a' := ?_) #[true, true, true, true, true, true, true, true, true, false, false, false, false, false, false, false, false, false, false, false, false, false, false, false, false, false] rfl rfl (take_ofW HT_.out HW_.out (by kernel_rfl)) (fun _ _ _ h => h) (Or.inl ⟨by rfl, ?_⟩) hHeld ?_ ?_
    rotate_left
    · rintro w' ⟨c0, c1, c2, c3, c4, c5, c6, c7, p2, p4⟩
      go_simp
      with_reducible rfl
    rotate_left
    · simp only [Act.put, List.setIfInBounds_toArray, List.set_cons_zero, List.set_cons_succ, i64_w, i32_w]
      rfl
    refine take_ (i := 9) (N := (some 15)) (v := ?_) (a' := ?_) #[true, true, true, true, true, true, true, true, true, true, false, false, false, false, false, false, false, false, false, false, false, false, false, false, false, false] rfl rfl (take_ofW HT_.out HW_.out (by kernel_rfl)) (fun _ _ _ h => h) (Or.inl ⟨by rfl, ?_⟩) hHeld ?_ ?_
    rotate_left
    · rintro w' ⟨c0, c1, c2, c3, c4, c5, c6, c7, p2, p4⟩
      go_simp
      with_reducible rfl
    rotate_left
    · simp only [Act.put, List.setIfInBounds_toArray, List.set_cons_zero, List.set_cons_succ, i64_w, i32_w]
      rfl
    refine one_ (i := 10) (N := (some 16)) #[true, true, true, true, true, true, true, true, true, true, true, false, false, false, false, false, false, false, false, false, false, false, false, false, false, false] rfl rfl (one_of HT_.out (by kernel_rfl)) (by decide) (fun K hK => ?_)
    refine event_step (v := .bool true) (w1 := w2) (by rfl) (by first | (go_simp; done) | (go_simp; rfl)) ?_
    clear hlk
    refine hK.out _ _ ⟨d0, d1, d2, d3, d4, d5, d6, d7, q2, q4⟩ (fun hHeld => ?_)
    clear hK K
    refine norm_ (a' := ?_) ?_ ?_
    rotate_left
    · show Act.put _ (some 16) _ = _
      simp only [Act.put, List.setIfInBounds_toArray, List.set_cons_zero, List.set_cons_succ, i64_w, i32_w]
      rfl
    refine pure_ (i := 11) (N := (some 17)) (v := ?_) (a' := ?_) #[true, true, true, true, true, true, true, true, true, true, true, true, false, false, false, false, false, false, false, false, false, false, false, false, false, false] rfl rfl (any_of HT_.out (by kernel_rfl)) (fun _ _ _ h => h) (Or.inl ⟨by rfl, ?_⟩) ?_ ?_
    rotate_left
    · intro w'
      go_simp
      with_reducible rfl
    rotate_left
    · simp only [Act.put, List.setIfInBounds_toArray, List.set_cons_zero, List.set_cons_succ, i64_w, i32_w]
      rfl
    refine pure_ (i := 12) (N := (some 18)) (v := ?_) (a' := ?_) #[true, true, true, true, true, true, true, true, true, true, true, true, true, false, false, false, false, false, false, false, false, false, false, false, false, false] rfl rfl (any_of HT_.out (by kernel_rfl)) (fun _ _ _ h => h) (Or.inl ⟨by rfl, ?_⟩) ?_ ?_
    rotate_left
    · intro w'
      go_simp
      with_reducible rfl
    rotate_left
    · simp only [Act.put, List.setIfInBounds_toArray, List.set_cons_zero, List.set_cons_succ, i64_w, i32_w]
      rfl
    refine take_ (i := 13) (N := (some 19)) (v := ?_) (a' := ?_) #[true, true, true, true, true, true, true, true, true, true, true, true, true, true, false, false, false, false, false, false, false, false, false, false, false, false] rfl rfl (take_ofW HT_.out HW_.out (by kernel_rfl)) (fun _ _ _ h => h) (Or.inl ⟨by rfl, ?_⟩) hHeld ?_ ?_
    rotate_left
    · rintro w' ⟨c0, c1, c2, c3, c4, c5, c6, c7, p2, p4⟩
      go_simp
      with_reducible rfl
    rotate_left
    · simp only [Act.put, List.setIfInBounds_toArray, List.set_cons_zero, List.set_cons_succ, i64_w, i32_w]
      rfl
    refine pure_ (i := 14) (N := (some 20)) (v := ?_) (a' := ?_) #[true, true, true, true, true, true, true, true, true, true, true, true, true, true, true, false, false, false, false, false, false, false, false, false, false, false] rfl rfl (any_of HT_.out (by kernel_rfl)) (fun _ _ _ h => h) (Or.inl ⟨by rfl, ?_⟩) ?_ ?_
    rotate_left
    · intro w'
      go_simp
      with_reducible rfl
    rotate_left
    · simp only [Act.put, List.setIfInBounds_toArray, List.set_cons_zero, List.set_cons_succ, i64_w, i32_w]
      rfl
    refine pure_ (i := 15) (N := (some 21)) (v := ?_) (a' := ?_) #[true, true, true, true, true, true, true, true, true, true, true, true, true, true, true, true, false, false, false, false, false, false, false, false, false, false] rfl rfl (any_of HT_.out (by kernel_rfl)) (fun _ _ _ h => h) (Or.inl ⟨by rfl, ?_⟩) ?_ ?_
    rotate_left
    · intro w'
      go_simp
      with_reducible rfl
    rotate_left
    · simp only [Act.put, List.setIfInBounds_toArray, List.set_cons_zero, List.set_cons_succ, i64_w, i32_w]
      rfl
    refine pure_ (i := 16) (N := (some 22)) (v := ?_) (a' := ?_) #[true, true, true, true, true, true, true, true, true, true, true, true, true, true, true, true, true, false, false, false, false, false, false, false, false, false] rfl rfl (any_of HT_.out (by kernel_rfl)) (fun _ _ _ h => h) (Or.inl ⟨by rfl, ?_⟩) ?_ ?_
    rotate_left
    · intro w'
      go_simp
      with_reducible rfl
    rotate_left
    · simp only [Act.put, List.setIfInBounds_toArray, List.set_cons_zero, List.set_cons_succ, i64_w, i32_w]
      rfl
    refine pure_ (i := 17) (N := (some 23)) (v := ?_) (a' := ?_) #[true, true, true, true, true, true, true, true, true, true, true, true, true, true, true, true, true, true, false, false, false, false, false, false, false, false] rfl rfl (any_of HT_.out (by kernel_rfl)) (fun _ _ _ h => h) (Or.inl ⟨by rfl, ?_⟩) ?_ ?_
    rotate_left
    · intro w'
      go_simp
      with_reducible rfl
    rotate_left
    · simp only [Act.put, List.setIfInBounds_toArray, List.set_cons_zero, List.set_cons_succ, i64_w, i32_w]
      rfl
    refine pure_ (i := 18) (N := (some 24)) (v := ?_) (a' := ?_) #[true, true, true, true, true, true, true, true, true, true, true, true, true, true, true, true, true, true, true, false, false, false, false, false, false, false] rfl rfl (any_of HT_.out (by kernel_rfl)) (fun _ _ _ h => h) (Or.inl ⟨by rfl, ?_⟩) ?_ ?_
    rotate_left
    · intro w'
      go_simp
      with_reducible rfl
    rotate_left
    · simp only [Act.put, List.setIfInBounds_toArray, List.set_cons_zero, List.set_cons_succ, i64_w, i32_w]
      rfl
    refine pure_ (i := 19) (N := (some 25)) (v := ?_) (a' := ?_) #[true, true, true, true, true, true, true, true, true, true, true, true, true, true, true, true, true, true, true, true, false, false, false, false, false, false] rfl rfl (any_of HT_.out (by kernel_rfl)) (fun _ _ _ h => h) (Or.inl ⟨by rfl, ?_⟩) ?_ ?_
    rotate_left
    · intro w'
      go_simp
      with_reducible rfl
    rotate_left
    · simp only [Act.put, List.setIfInBounds_toArray, List.set_cons_zero, List.set_cons_succ, i64_w, i32_w]
      rfl
    refine pure_ (i := 20) (N := (some 26)) (v := ?_) (a' := ?_) #[true, true, true, true, true, true, true, true, true, true, true, true, true, true, true, true, true, true, true, true, true, false, false, false, false, false] rfl rfl (any_of HT_.out (by kernel_rfl)) (fun _ _ _ h => h) (Or.inl ⟨by rfl, ?_⟩) ?_ ?_
    rotate_left
    · intro w'
      go_simp
      with_reducible rfl
    rotate_left
    · simp only [Act.put, List.setIfInBounds_toArray, List.set_cons_zero, List.set_cons_succ, i64_w, i32_w]
      rfl
    refine take_ (i := 21) (N := (some 27)) (v := ?_) (a' := ?_) #[true, true, true, true, true, true, true, true, true, true, true, true, true, true, true, true, true, true, true, true, true, true, false, false, false, false] rfl rfl (take_ofW HT_.out HW_.out (by kernel_rfl)) (fun _ _ _ h => h) (Or.inl ⟨by rfl, ?_⟩) hHeld ?_ ?_
    rotate_left
    · rintro w' ⟨c0, c1, c2, c3, c4, c5, c6, c7, p2, p4⟩
      go_simp
      with_reducible rfl
    rotate_left
    · simp only [Act.put, List.setIfInBounds_toArray, List.set_cons_zero, List.set_cons_succ, i64_w, i32_w]
      rfl
    refine pure_ (i := 22) (N := (some 28)) (v := ?_) (a' := ?_) #[true, true, true, true, true, true, true, true, true, true, true, true, true, true, true, true, true, true, true, true, true, true, true, false, false, false] rfl rfl (any_of HT_.out (by kernel_rfl)) (fun _ _ _ h => h) (Or.inl ⟨by rfl, ?_⟩) ?_ ?_
    rotate_left
    · intro w'
      go_simp
      with_reducible rfl
    rotate_left
    · simp only [Act.put, List.setIfInBounds_toArray, List.set_cons_zero, List.set_cons_succ, i64_w, i32_w]
      rfl
    refine pure_ (i := 23) (N := (some 29)) (v := ?_) (a' := ?_) #[true, true, true, true, true, true, true, true, true, true, true, true, true, true, true, true, true, true, true, true, true, true, true, true, false, false] rfl rfl (any_of HT_.out (by kernel_rfl)) (fun _ _ _ h => h) (Or.inl ⟨by rfl, ?_⟩) ?_ ?_
    rotate_left
    · intro w'
      go_simp
      with_reducible rfl
    rotate_left
    · simp only [Act.put, List.setIfInBounds_toArray, List.set_cons_zero, List.set_cons_succ, i64_w, i32_w]
      rfl
    refine pure_ (i := 24) (N := (some 30)) (v := ?_) (a' := ?_) #[true, true, true, true, true, true, true, true, true, true, true, true, true, true, true, true, true, true, true, true, true, true, true, true, true, false] rfl rfl (any_of HT_.out (by kernel_rfl)) (fun _ _ _ h => h) (Or.inl ⟨by rfl, ?_⟩) ?_ ?_
    rotate_left
    · intro w'
      go_simp
      with_reducible rfl
    rotate_left
    · simp only [Act.put, List.setIfInBounds_toArray, List.set_cons_zero, List.set_cons_succ, i64_w, i32_w]
      rfl
    refine pure_ (i := 25) (N := (some 5)) (v := ?_) (a' := ?_) #[true, true, true, true, true, true, true, true, true, true, true, true, true, true, true, true, true, true, true, true, true, true, true, true, true, true] rfl rfl (any_of HT_.out (by kernel_rfl)) (fun _ _ _ h => h) (Or.inl ⟨by rfl, ?_⟩) ?_ ?_
    rotate_left
    · intro w'
      go_simp
      with_reducible rfl
    rotate_left
    · simp only [Act.put, List.setIfInBounds_toArray, List.set_cons_zero, List.set_cons_succ, i64_w, i32_w]
      rfl
    refine done_ (done_of HT_.out (by kernel_rfl)) ?_
    rw [show decide ((1048576 : Int) ≤ (n : Int)) = false from HQ0.out]
    have r1 := HP.out w2 HB2.out
    go_wp2_with fail
    go_still_tail 8, (by kernel_rfl)
    change wpList _ _ _ _ _ w2.drew
    go_wp2_with fail
    have HHw := Aside0.mk (HHas.out w2 HB2.out)
    refine HHw.out.mono ?_
    rintro r w3 ⟨rfl, hb3⟩
    have HB3 := Aside0.mk (HBA.out _ (HB2.out.drew.trans (hb3.mono HB2.out.drew.size)))
    clear hb3 d0 d1 d2 d3 d4 d5 d6 d7 q2 q4
    obtain ⟨hh, hhq⟩ : ∃ hh, hh = hasS x.had s0 s1 := ⟨_, rfl⟩
    rw [← hhq]
    have HHq := Aside0.mk hhq
    clear hhq
    cases hh
    · have HF : Aside0 (lookB x ⟨s0, s1, s2, 14, s4, s5, s6, s7⟩ = 0) := ⟨by unfold lookB; rw [if_pos HOk.out, ← HHq.out]; rfl⟩
      go_wp2
      go_ret
      exact ⟨by rw [HF.out]; rfl, HB3.out⟩
    · have HF : Aside0 (lookB x ⟨s0, s1, s2, 14, s4, s5, s6, s7⟩ = 1) := ⟨by unfold lookB; rw [if_pos HOk.out, ← HHq.out]; rfl⟩
      go_wp2
      go_ret
      exact ⟨by rw [HF.out]; rfl, HB3.out⟩
  · have hk1 : (s3 == 14) = false := by simpa using hk
    have hk2 : (s3 != 14) = true := by simp [bne, hk1]
    have HF : Aside0 (lookB x ⟨s0, s1, s2, s3, s4, s5, s6, s7⟩ = 3) := ⟨by unfold lookB; rw [← HQ.out.1]; simp only; rw [← HQ.out.2, hk2]; rfl⟩
    refine start_ (n := 26) (S := fun W => W.cell? ⟨w.heap.size, 0, none⟩ = some (.string s0) ∧ W.cell? ⟨w.heap.size, 1, none⟩ = some (.int .i64 s1) ∧ W.cell? ⟨w.heap.size, 2, none⟩ = some (.int .i64 s2) ∧ W.cell? ⟨w.heap.size, 3, none⟩ = some (.int .i64 s3) ∧ W.cell? ⟨w.heap.size, 4, none⟩ = some (.string s4) ∧ W.cell? ⟨w.heap.size, 5, none⟩ = some (.string s5) ∧ W.cell? ⟨w.heap.size, 6, none⟩ = some (.int .i64 s6) ∧ W.cell? ⟨w.heap.size, 7, none⟩ = some (.string s7) ∧ W.cell? ⟨y.g, 2, none⟩ = some (.slice A n c) ∧ W.cell? ⟨y.g, 4, none⟩ = some (.map (some y.mb))) (ds := []) #[false, false, false, false, false, false, false, false, false, false, false, false, false, false, false, false, false, false, false, false, false, false, false, false, false, false] (by kernel_rfl) rfl rfl ⟨c0, c1, c2, c3, c4, c5, c6, c7, p2, p4⟩ (fun hHeld => ?_)
    refine with_tabW regO_1.tab regO_1.bits (fun HT_ HW_ => ?_)
    refine take_ (i := 0) (N := (some 6)) (v := ?_) (a' := ?_) #[true, false, false, false, false, false, false, false, false, false, false, false, false, false, false, false, false, false, false, false, false, false, false, false, false, false] rfl rfl (take_ofW HT_.out HW_.out (by kernel_rfl)) (fun _ _ _ h => h) (Or.inl ⟨by rfl, ?_⟩) hHeld ?_ ?_
    rotate_left
    · rintro w' ⟨c0, c1, c2, c3, c4, c5, c6, c7, p2, p4⟩
      go_simp
      with_reducible rfl
    rotate_left
    · simp only [Act.put, List.setIfInBounds_toArray, List.set_cons_zero, List.set_cons_succ, i64_w, i32_w]
      rfl
    refine one_ (i := 1) (N := (some 7)) #[true, true, false, false, false, false, false, false, false, false, false, false, false, false, false, false, false, false, false, false, false, false, false, false, false, false] rfl rfl (one_of HT_.out (by kernel_rfl)) (by decide) (fun K hK => ?_)
    refine goes_ Tryz.func96 (by kernel_rfl) rfl #[evV ⟨s0, s1, s2, s3, s4, s5, s6, s7⟩] (by rfl) rfl rfl (by (try simp only [List.map_toArray, List.map_cons, List.map_nil]); first | done | rfl) ?_
    refine (HMay.out).mono ?_
    rintro r w2 ⟨rfl, hb2⟩
    refine ⟨_, rfl, ?_⟩
    have HB2 := Aside0.mk ((below_drew (Below.refl wA.heap.size wA)).trans (hb2.mono (Nat.le_refl _)))
    obtain ⟨d0, d1, d2, d3, d4, d5, d6, d7⟩ := HBox.out.below HB2.out
    simp only [Nat.zero_add] at d0 d1 d2 d3 d4 d5 d6 d7
    have q2 := pw_cell_below HB2.out p2
    have q4 := pw_cell_below HB2.out p4
    have hlk := HLk.out w2 HB2.out
    clear hb2 c0 c1 c2 c3 c4 c5 c6 c7 p2 p4
    refine hK.out _ _ ⟨d0, d1, d2, d3, d4, d5, d6, d7, q2, q4⟩ (fun hHeld => ?_)
    clear hK K
    refine norm_ (a' := ?_) ?_ ?_
    rotate_left
    · show Act.put _ (some 7) _ = _
      simp only [Act.put, List.setIfInBounds_toArray, List.set_cons_zero, List.set_cons_succ, i64_w, i32_w]
      rfl
    refine pure_ (i := 2) (N := (some 8)) (v := ?_) (a' := ?_) #[true, true, true, false, false, false, false, false, false, false, false, false, false, false, false, false, false, false, false, false, false, false, false, false, false, false] rfl rfl (any_of HT_.out (by kernel_rfl)) (fun _ _ _ h => h) (Or.inl ⟨by rfl, ?_⟩) ?_ ?_
    rotate_left
    · intro w'
      go_simp
      with_reducible rfl
    rotate_left
    · simp only [Act.put, List.setIfInBounds_toArray, List.set_cons_zero, List.set_cons_succ, i64_w, i32_w]
      rfl
    refine pure_ (i := 3) (N := (some 9)) (v := ?_) (a' := ?_) #[true, true, true, true, false, false, false, false, false, false, false, false, false, false, false, false, false, false, false, false, false, false, false, false, false, false] rfl rfl (any_of HT_.out (by kernel_rfl)) (fun _ _ _ h => h) (Or.inl ⟨by rfl, ?_⟩) ?_ ?_
    rotate_left
    · intro w'
      go_simp
      with_reducible rfl
    rotate_left
    · simp only [Act.put, List.setIfInBounds_toArray, List.set_cons_zero, List.set_cons_succ, i64_w, i32_w]
      rfl
    refine pure_ (i := 4) (N := (some 10)) (v := ?_) (a' := ?_) #[true, true, true, true, true, false, false, false, false, false, false, false, false, false, false, false, false, false, false, false, false, false, false, false, false, false] rfl rfl (any_of HT_.out (by kernel_rfl)) (fun _ _ _ h => h) (Or.inl ⟨by rfl, ?_⟩) ?_ ?_
    rotate_left
    · intro w'
      go_simp
      with_reducible rfl
    rotate_left
    · simp only [Act.put, List.setIfInBounds_toArray, List.set_cons_zero, List.set_cons_succ, i64_w, i32_w]
      rfl
    refine pure_ (i := 5) (N := (some 11)) (v := ?_) (a' := ?_) #[true, true, true, true, true, true, false, false, false, false, false, false, false, false, false, false, false, false, false, false, false, false, false, false, false, false] rfl rfl (any_of HT_.out (by kernel_rfl)) (fun _ _ _ h => h) (Or.inl ⟨by rfl, ?_⟩) ?_ ?_
    rotate_left
    · intro w'
      go_simp
      with_reducible rfl
    rotate_left
    · simp only [Act.put, List.setIfInBounds_toArray, List.set_cons_zero, List.set_cons_succ, i64_w, i32_w]
      rfl
    refine pure_ (i := 6) (N := (some 12)) (v := ?_) (a' := ?_) #[true, true, true, true, true, true, true, false, false, false, false, false, false, false, false, false, false, false, false, false, false, false, false, false, false, false] rfl rfl (any_of HT_.out (by kernel_rfl)) (fun _ _ _ h => h) (Or.inl ⟨by rfl, ?_⟩) ?_ ?_
    rotate_left
    · intro w'
      go_simp
      with_reducible rfl
    rotate_left
    · simp only [Act.put, List.setIfInBounds_toArray, List.set_cons_zero, List.set_cons_succ, i64_w, i32_w]
      rfl
    refine pure_ (i := 8) (N := (some 14)) (v := ?_) (a' := ?_) #[true, true, true, true, true, true, true, false, true, false, false, false, false, false, false, false, false, false, false, false, false, false, false, false, false, false] rfl rfl (any_of HT_.out (by kernel_rfl)) (fun _ _ _ h => h) (Or.inl ⟨by rfl, ?_⟩) ?_ ?_
    rotate_left
    · intro w'
      go_simp
      with_reducible rfl
    rotate_left
    · simp only [Act.put, List.setIfInBounds_toArray, List.set_cons_zero, List.set_cons_succ, i64_w, i32_w]
      rfl
    refine take_ (i := 7) (N := (some 13)) (v := ?_) (a' := ?_) #[true, true, true, true, true, true, true, true, true, false, false, false, false, false, false, false, false, false, false, false, false, false, false, false, false, false] rfl rfl (take_ofW HT_.out HW_.out (by kernel_rfl)) (fun _ _ _ h => h) (Or.inl ⟨by rfl, ?_⟩) hHeld ?_ ?_
    rotate_left
    · rintro w' ⟨c0, c1, c2, c3, c4, c5, c6, c7, p2, p4⟩
      go_simp
      with_reducible rfl
    rotate_left
    · simp only [Act.put, List.setIfInBounds_toArray, List.set_cons_zero, List.set_cons_succ, i64_w, i32_w]
      rfl
    refine take_ (i := 9) (N := (some 15)) (v := ?_) (a' := ?_) #[true, true, true, true, true, true, true, true, true, true, false, false, false, false, false, false, false, false, false, false, false, false, false, false, false, false] rfl rfl (take_ofW HT_.out HW_.out (by kernel_rfl)) (fun _ _ _ h => h) (Or.inl ⟨by rfl, ?_⟩) hHeld ?_ ?_
    rotate_left
    · rintro w' ⟨c0, c1, c2, c3, c4, c5, c6, c7, p2, p4⟩
      go_simp
      with_reducible rfl
    rotate_left
    · simp only [Act.put, List.setIfInBounds_toArray, List.set_cons_zero, List.set_cons_succ, i64_w, i32_w]
      rfl
    refine one_ (i := 10) (N := (some 16)) #[true, true, true, true, true, true, true, true, true, true, true, false, false, false, false, false, false, false, false, false, false, false, false, false, false, false] rfl rfl (one_of HT_.out (by kernel_rfl)) (by decide) (fun K hK => ?_)
    refine event_step (v := .bool true) (w1 := w2) (by rfl) (by first | (go_simp; done) | (go_simp; rfl)) ?_
    clear hlk
    refine hK.out _ _ ⟨d0, d1, d2, d3, d4, d5, d6, d7, q2, q4⟩ (fun hHeld => ?_)
    clear hK K
    refine norm_ (a' := ?_) ?_ ?_
    rotate_left
    · show Act.put _ (some 16) _ = _
      simp only [Act.put, List.setIfInBounds_toArray, List.set_cons_zero, List.set_cons_succ, i64_w, i32_w]
      rfl
    refine pure_ (i := 11) (N := (some 17)) (v := ?_) (a' := ?_) #[true, true, true, true, true, true, true, true, true, true, true, true, false, false, false, false, false, false, false, false, false, false, false, false, false, false] rfl rfl (any_of HT_.out (by kernel_rfl)) (fun _ _ _ h => h) (Or.inl ⟨by rfl, ?_⟩) ?_ ?_
    rotate_left
    · intro w'
      go_simp
      with_reducible rfl
    rotate_left
    · simp only [Act.put, List.setIfInBounds_toArray, List.set_cons_zero, List.set_cons_succ, i64_w, i32_w]
      rfl
    refine pure_ (i := 12) (N := (some 18)) (v := ?_) (a' := ?_) #[true, true, true, true, true, true, true, true, true, true, true, true, true, false, false, false, false, false, false, false, false, false, false, false, false, false] rfl rfl (any_of HT_.out (by kernel_rfl)) (fun _ _ _ h => h) (Or.inl ⟨by rfl, ?_⟩) ?_ ?_
    rotate_left
    · intro w'
      go_simp
      with_reducible rfl
    rotate_left
    · simp only [Act.put, List.setIfInBounds_toArray, List.set_cons_zero, List.set_cons_succ, i64_w, i32_w]
      rfl
    refine take_ (i := 13) (N := (some 19)) (v := ?_) (a' := ?_) #[true, true, true, true, true, true, true, true, true, true, true, true, true, true, false, false, false, false, false, false, false, false, false, false, false, false] rfl rfl (take_ofW HT_.out HW_.out (by kernel_rfl)) (fun _ _ _ h => h) (Or.inl ⟨by rfl, ?_⟩) hHeld ?_ ?_
    rotate_left
    · rintro w' ⟨c0, c1, c2, c3, c4, c5, c6, c7, p2, p4⟩
      go_simp
      with_reducible rfl
    rotate_left
    · simp only [Act.put, List.setIfInBounds_toArray, List.set_cons_zero, List.set_cons_succ, i64_w, i32_w]
      rfl
    refine pure_ (i := 14) (N := (some 20)) (v := ?_) (a' := ?_) #[true, true, true, true, true, true, true, true, true, true, true, true, true, true, true, false, false, false, false, false, false, false, false, false, false, false] rfl rfl (any_of HT_.out (by kernel_rfl)) (fun _ _ _ h => h) (Or.inl ⟨by rfl, ?_⟩) ?_ ?_
    rotate_left
    · intro w'
      go_simp
      with_reducible rfl
    rotate_left
    · simp only [Act.put, List.setIfInBounds_toArray, List.set_cons_zero, List.set_cons_succ, i64_w, i32_w]
      rfl
    refine pure_ (i := 15) (N := (some 21)) (v := ?_) (a' := ?_) #[true, true, true, true, true, true, true, true, true, true, true, true, true, true, true, true, false, false, false, false, false, false, false, false, false, false] rfl rfl (any_of HT_.out (by kernel_rfl)) (fun _ _ _ h => h) (Or.inl ⟨by rfl, ?_⟩) ?_ ?_
    rotate_left
    · intro w'
      go_simp
      with_reducible rfl
    rotate_left
    · simp only [Act.put, List.setIfInBounds_toArray, List.set_cons_zero, List.set_cons_succ, i64_w, i32_w]
      rfl
    refine pure_ (i := 16) (N := (some 22)) (v := ?_) (a' := ?_) #[true, true, true, true, true, true, true, true, true, true, true, true, true, true, true, true, true, false, false, false, false, false, false, false, false, false] rfl rfl (any_of HT_.out (by kernel_rfl)) (fun _ _ _ h => h) (Or.inl ⟨by rfl, ?_⟩) ?_ ?_
    rotate_left
    · intro w'
      go_simp
      with_reducible rfl
    rotate_left
    · simp only [Act.put, List.setIfInBounds_toArray, List.set_cons_zero, List.set_cons_succ, i64_w, i32_w]
      rfl
    refine pure_ (i := 17) (N := (some 23)) (v := ?_) (a' := ?_) #[true, true, true, true, true, true, true, true, true, true, true, true, true, true, true, true, true, true, false, false, false, false, false, false, false, false] rfl rfl (any_of HT_.out (by kernel_rfl)) (fun _ _ _ h => h) (Or.inl ⟨by rfl, ?_⟩) ?_ ?_
    rotate_left
    · intro w'
      go_simp
      with_reducible rfl
    rotate_left
    · simp only [Act.put, List.setIfInBounds_toArray, List.set_cons_zero, List.set_cons_succ, i64_w, i32_w]
      rfl
    refine pure_ (i := 18) (N := (some 24)) (v := undef) (a' := ?_) #[true, true, true, true, true, true, true, true, true, true, true, true, true, true, true, true, true, true, true, false, false, false, false, false, false, false] rfl rfl (any_of HT_.out (by kernel_rfl)) (fun _ _ _ h => h) (Or.inr ⟨by rfl, rfl⟩) ?_ ?_
    rotate_left
    · simp only [Act.put, List.setIfInBounds_toArray, List.set_cons_zero, List.set_cons_succ, i64_w, i32_w]
      rfl
    refine pure_ (i := 19) (N := (some 25)) (v := undef) (a' := ?_) #[true, true, true, true, true, true, true, true, true, true, true, true, true, true, true, true, true, true, true, true, false, false, false, false, false, false] rfl rfl (any_of HT_.out (by kernel_rfl)) (fun _ _ _ h => h) (Or.inr ⟨by rfl, rfl⟩) ?_ ?_
    rotate_left
    · simp only [Act.put, List.setIfInBounds_toArray, List.set_cons_zero, List.set_cons_succ, i64_w, i32_w]
      rfl
    refine pure_ (i := 20) (N := (some 26)) (v := undef) (a' := ?_) #[true, true, true, true, true, true, true, true, true, true, true, true, true, true, true, true, true, true, true, true, true, false, false, false, false, false] rfl rfl (any_of HT_.out (by kernel_rfl)) (fun _ _ _ h => h) (Or.inr ⟨by rfl, rfl⟩) ?_ ?_
    rotate_left
    · simp only [Act.put, List.setIfInBounds_toArray, List.set_cons_zero, List.set_cons_succ, i64_w, i32_w]
      rfl
    refine pure_ (i := 21) (N := (some 27)) (v := undef) (a' := ?_) #[true, true, true, true, true, true, true, true, true, true, true, true, true, true, true, true, true, true, true, true, true, true, false, false, false, false] rfl rfl (any_of HT_.out (by kernel_rfl)) (fun _ _ _ h => h) (Or.inr ⟨by rfl, rfl⟩) ?_ ?_
    rotate_left
    · simp only [Act.put, List.setIfInBounds_toArray, List.set_cons_zero, List.set_cons_succ, i64_w, i32_w]
      rfl
    refine pure_ (i := 22) (N := (some 28)) (v := undef) (a' := ?_) #[true, true, true, true, true, true, true, true, true, true, true, true, true, true, true, true, true, true, true, true, true, true, true, false, false, false] rfl rfl (any_of HT_.out (by kernel_rfl)) (fun _ _ _ h => h) (Or.inr ⟨by rfl, rfl⟩) ?_ ?_
    rotate_left
    · simp only [Act.put, List.setIfInBounds_toArray, List.set_cons_zero, List.set_cons_succ, i64_w, i32_w]
      rfl
    refine pure_ (i := 23) (N := (some 29)) (v := undef) (a' := ?_) #[true, true, true, true, true, true, true, true, true, true, true, true, true, true, true, true, true, true, true, true, true, true, true, true, false, false] rfl rfl (any_of HT_.out (by kernel_rfl)) (fun _ _ _ h => h) (Or.inr ⟨by rfl, rfl⟩) ?_ ?_
    rotate_left
    · simp only [Act.put, List.setIfInBounds_toArray, List.set_cons_zero, List.set_cons_succ, i64_w, i32_w]
      rfl
    refine pure_ (i := 24) (N := (some 30)) (v := ?_) (a' := ?_) #[true, true, true, true, true, true, true, true, true, true, true, true, true, true, true, true, true, true, true, true, true, true, true, true, true, false] rfl rfl (any_of HT_.out (by kernel_rfl)) (fun _ _ _ h => h) (Or.inl ⟨by rfl, ?_⟩) ?_ ?_
    rotate_left
    · intro w'
      go_simp
      with_reducible rfl
    rotate_left
    · simp only [Act.put, List.setIfInBounds_toArray, List.set_cons_zero, List.set_cons_succ, i64_w, i32_w]
      rfl
    refine pure_ (i := 25) (N := (some 5)) (v := ?_) (a' := ?_) #[true, true, true, true, true, true, true, true, true, true, true, true, true, true, true, true, true, true, true, true, true, true, true, true, true, true] rfl rfl (any_of HT_.out (by kernel_rfl)) (fun _ _ _ h => h) (Or.inl ⟨by rfl, ?_⟩) ?_ ?_
    rotate_left
    · intro w'
      go_simp
      with_reducible rfl
    rotate_left
    · simp only [Act.put, List.setIfInBounds_toArray, List.set_cons_zero, List.set_cons_succ, i64_w, i32_w]
      rfl
    refine done_ (done_of HT_.out (by kernel_rfl)) ?_
    go_wp2
    go_ret
    exact ⟨by rw [HF.out]; rfl, HBA.out _ HB2.out⟩
end Go.Proofs.YtmmfoeckggpgdaaGreatDoor
set_option linter.unusedSimpArgs false
set_option linter.unusedVariables false
namespace Go.Proofs.YtmmfoeckggpgdaaGreatDoor
open Go.RowKit Go.Lib Go.Maps Go.Proofs.YtmmfoeckggpgdaaGreatDoorW.PrintWords Go.Proofs.YtmmfoeckggpgdaaGreatDoorW.PrintLast

def TakePost (base : Nat) (y : Lay) (x : In) (e : Ev) (w : World) (r : Ending) (W : World) : Prop := r = .returned (.int .i64 0) ∧ ∃ y' had', InStep base w y W y' (takeP x e had') ∧ hadMore x.had had' e ∧ y'.cn = y.cn
theorem evAt_put {base : Nat} {v : Value} {l : List Ev} {e : Ev} {i : Nat} {w : World} {r : Ending} {W : World} (h : RowPost base 28 8 v (l.length + 1) ((evsC l).take (i * 8) ++ evC e ++ (evsC l).drop (i * 8)) w r W) (hi : i = posW (lessE e) l) :
    ∃ v', r = .returned v' ∧ EvAt W base v' (putE l e) ∧ Fr (fun k => v.ownBlock = some k) w W ∧ (v'.ownBlock = v.ownBlock ∨ ∃ b, v'.ownBlock = some b ∧ w.heap.size ≤ b) := by
  obtain ⟨v', h1, h2, h3, h4⟩ := h
  refine ⟨v', h1, ?_, h3, h4⟩
  unfold EvAt
  rw [putE_len]
  have e1 : evsC (putE l e) = (evsC l).take (i * 8) ++ evC e ++ (evsC l).drop (i * 8) := by
    unfold putE
    rw [evsC_append, evsC_cons, ← hi, ← List.append_assoc]
    have hil : i ≤ l.length := by rw [hi]; exact posW_le _ _
    have hl : (l.take i).length = i := by rw [List.length_take]; omega
    have e2 := evsC_take (l.take i) (l.drop i)
    have e3 := evsC_drop (l.take i) (l.drop i)
    rw [List.take_append_drop, hl] at e2 e3
    rw [e2, e3]
  rw [e1]
  exact h2
def regT_2.T : Bool × List (List Nat × List Nat) := (true, [([], []), ([0], [0]), ([1], [1]), ([2], [2]), ([], []), ([3, 4], [3, 4]), ([5], [5]), ([6], [6]), ([6], [6]), ([7, 5, 0, 1, 2, 3, 4, 5, 6, 7], [7]), ([8, 9, 0, 1, 2, 3, 4, 5, 6, 7, 8, 9], [8])])
def regT_2.B : List Nat := [0, 1, 3, 7, 0, 31, 63, 127, 127, 255, 1023]
theorem regT_2.tab : rtab .any (opsOf Tryz.f56 2) = regT_2.T := by kernel_rfl
theorem regT_2.bits : waitsOk regT_2.T.2 regT_2.B = true := by kernel_rfl
def regT_3.T : Bool × List (List Nat × List Nat) := (true, [([], []), ([], []), ([1], [1]), ([2], [2]), ([3], [3]), ([], []), ([], []), ([6], [6]), ([4, 5, 7], [4, 5, 7]), ([0, 0, 1, 2, 3, 4, 5, 6, 7, 8], [0]), ([9, 0, 1, 2, 3, 4, 5, 6, 7, 8], [9]), ([10, 8, 8, 0, 1, 2, 3, 4, 5, 6, 7, 8], [8, 10])])
def regT_3.B : List Nat := [0, 0, 2, 6, 14, 0, 0, 64, 254, 511, 1023, 2047]
theorem regT_3.tab : rtab .any (opsOf Tryz.f56 3) = regT_3.T := by kernel_rfl
theorem regT_3.bits : waitsOk regT_3.T.2 regT_3.B = true := by kernel_rfl
def regT_6.T : Bool × List (List Nat × List Nat) := (true, [([], []), ([], []), ([], []), ([2], [2]), ([3], [3]), ([4], [4]), ([], []), ([6], [6]), ([5, 7], [5, 7]), ([], []), ([9], [9]), ([10], [10]), ([11], [11]), ([], []), ([13], [13]), ([12, 14, 8], [12, 14]), ([0, 0, 2, 3, 4, 5, 6, 7, 8, 12, 15], [0]), ([16, 0, 2, 3, 4, 5, 6, 7, 8, 12, 15], [16]), ([17, 8, 15, 0, 2, 3, 4, 5, 6, 7, 8, 12, 15], [8, 17]), ([1, 0, 1, 2, 3, 4, 5, 6, 7, 8, 9, 10, 11, 12, 13, 14, 15, 16, 17, 18], [1]), ([19, 0, 1, 2, 3, 4, 5, 6, 7, 8, 9, 10, 11, 12, 13, 14, 15, 16, 17, 18], [19]), ([20, 15, 18, 0, 1, 2, 3, 4, 5, 6, 7, 8, 9, 10, 11, 12, 13, 14, 15, 16, 17, 18], [15, 20])])
def regT_6.B : List Nat := [0, 0, 0, 4, 12, 28, 0, 64, 252, 0, 512, 1536, 3584, 0, 8192, 32764, 65533, 131069, 262141, 524287, 1048575, 2097151]
theorem regT_6.tab : rtab .any (opsOf Tryz.f56 6) = regT_6.T := by kernel_rfl
theorem regT_6.bits : waitsOk regT_6.T.2 regT_6.B = true := by kernel_rfl
set_option maxHeartbeats 4000000 in
set_option maxRecDepth 100000 in
theorem take_calls (base : Nat) (y : Lay) (x : In) (e : Ev) (w : World) (h : InAt w base y x) (hbase : base ≤ w.heap.size) (hs : nameB e.source = true) (hx1 : 1 ≤ e.number) (hx2 : e.number ≤ 1099511627776) (hno : hasS x.had e.source e.number = false) (hsn : y.sn ≤ 1000000000) (hmn : y.mn ≤ 1000000000) (hps : e.person.size ≤ maxLen) (ho : Ordered x.taken) (htl : x.taken.length ≤ 1000000) (hll : x.late.length ≤ 1000000) :
    Calls Tryz.prog 56 #[.pointer (some ⟨y.g, 0, none⟩), evV e] w fun r W => TakePost base y x e w r W := by
  obtain ⟨s0, s1, s2, s3, s4, s5, s6, s7⟩ := e
  obtain ⟨wA, hwA⟩ : ∃ wA, wA = w.alloc (.cells (evC ⟨s0, s1, s2, s3, s4, s5, s6, s7⟩).toArray 28) := ⟨_, rfl⟩
  have hbox0 : wA.heap[w.heap.size]? = some (.cells (evC ⟨s0, s1, s2, s3, s4, s5, s6, s7⟩).toArray 28 (0, 0)) := by rw [hwA]; exact heap_alloc_new w _
  have HwA : Aside0 (Below w.heap.size w wA) := ⟨by rw [hwA]; exact below_alloc (Below.refl _ _) _⟩
  have HL := Aside0.mk h.lts
  have HI := Aside0.mk h
  have H1 := Aside0.mk ((h.below HwA.out).below (below_drew (Below.refl _ _)))
  have HG := Aside0.mk (And.intro hsn (And.intro hmn (And.intro hps (And.intro ho (And.intro htl hll)))))
  have hput := put_calls base y.sg y.sb y.sn x.had s0 s1 wA.drew H1.out.had (Nat.le_trans hbase HwA.out.size) hs hx1 hx2 hno hsn
  have HPut := Aside0.mk hput
  have HBase := Aside0.mk hbase
  have HWA := Aside0.mk hwA
  have HBx := Aside0.mk hbox0
  obtain ⟨p0, p1, p2, p3, p4, ps⟩ := five H1.out.blk
  have c0 := blk_cell hbox0 0
  have c1 := blk_cell hbox0 1
  simp only [evC, List.getElem?_toArray, List.getElem?_cons_zero, List.getElem?_cons_succ] at c0 c1
  clear h hbase hs hx1 hx2 hno hsn hmn hps ho htl hll hput hwA hbox0 p0 p2 p3 p4
  unfold evV
  go_enter Tryz.func56, Tryz.ntmps56
  go_wp2_with fail
  rw [show (w.alloc (.cells (evC ⟨s0, s1, s2, s3, s4, s5, s6, s7⟩).toArray 28)) = wA from HWA.out.symm]
  go_still_tail 8, (by kernel_rfl)
  change wpList _ _ _ _ _ wA.drew
  go_wp2_with fail
  refine HPut.out.mono ?_
  rintro r w2 ⟨rfl, L', hS, hm, hf, hk⟩
  have H2 := Aside0.mk (H1.out.setHad hf hS hk)
  have HM := Aside0.mk hm
  have F2 : Aside0 (Fr (fun k => y.lab k ≤ 5) w w2) := ⟨(Fr.of_below HwA.out _).drew.then_ hf (fun k hk => .inl (by rw [HI.out.l2 k hk]; decide))⟩
  have HBx2 : Aside0 (w2.heap[w.heap.size]? = some (.cells (evC ⟨s0, s1, s2, s3, s4, s5, s6, s7⟩).toArray 28 (0, 0))) := ⟨hf.blk (w := wA.drew) HBx.out (fun hk => Nat.lt_irrefl _ (HL.out.2.2.1 _ hk))⟩
  clear c0 c1 p1 ps hS hm hf hk HPut HBx
  obtain ⟨y2, hy2⟩ : ∃ y2 : Lay, y2 = { y with sn := y.sn + 1, lab := y.more wA.drew.heap.size 2 } := ⟨_, rfl⟩
  rw [← hy2] at H2
  have e2 : y2.g = y.g ∧ y2.tv = y.tv ∧ y2.lv = y.lv ∧ y2.cg = y.cg ∧ y2.cb = y.cb ∧ y2.sg = y.sg ∧ y2.sb = y.sb ∧ y2.mb = y.mb ∧ y2.mn = y.mn ∧ y2.cn = y.cn ∧ y2.sn = y.sn + 1 := by rw [hy2]; exact ⟨rfl, rfl, rfl, rfl, rfl, rfl, rfl, rfl, rfl, rfl, rfl⟩
  have hlab2 : ∀ k, y2.lab k ≤ 5 → y.lab k ≤ 5 ∨ w.heap.size ≤ k := fun k hk => by
    rw [hy2] at hk
    exact (Lay.more_le k hk).imp id (fun h => Nat.le_trans HwA.out.size h)
  have HY2 := Aside0.mk (And.intro e2 hlab2)
  clear hy2 e2 hlab2
  have hbs := bsearch_calls ⟨s0, s1, s2, s3, s4, s5, s6, s7⟩ base y.tv x.taken w2.drew (by have h8 := (H2.out.below (below_drew (Below.refl _ _))).taken; rw [HY2.out.1.2.1] at h8; exact h8) (HG.out.2.2.2.1.parted _) (by have := HG.out.2.2.2.2.1; omega)
  have HBs := Aside0.mk hbs
  clear hbs
  obtain ⟨i, hi⟩ : ∃ i, i = posW (lessE ⟨s0, s1, s2, s3, s4, s5, s6, s7⟩) x.taken := ⟨_, rfl⟩
  rw [← hi] at HBs
  have HPos := Aside0.mk hi
  clear hi
  have c0 := blk_cell HBx2.out 0
  have c1 := blk_cell HBx2.out 1
  have c2 := blk_cell HBx2.out 2
  have c3 := blk_cell HBx2.out 3
  have c4 := blk_cell HBx2.out 4
  have c5 := blk_cell HBx2.out 5
  have c6 := blk_cell HBx2.out 6
  have c7 := blk_cell HBx2.out 7
  simp only [evC, List.getElem?_toArray, List.getElem?_cons_zero, List.getElem?_cons_succ] at c0 c1 c2 c3 c4 c5 c6 c7
  obtain ⟨p0, p1, p2, p3, p4, ps⟩ := five H2.out.blk
  rw [HY2.out.1.1, HY2.out.1.2.1] at p2
  clear p0 p1 p3 p4 ps
  go_wp2_with fail
  refine start_ (n := 11) (S := fun W => W.cell? ⟨w.heap.size, 0, none⟩ = some (.string s0) ∧ W.cell? ⟨w.heap.size, 1, none⟩ = some (.int .i64 s1) ∧ W.cell? ⟨w.heap.size, 2, none⟩ = some (.int .i64 s2) ∧ W.cell? ⟨w.heap.size, 3, none⟩ = some (.int .i64 s3) ∧ W.cell? ⟨w.heap.size, 4, none⟩ = some (.string s4) ∧ W.cell? ⟨w.heap.size, 5, none⟩ = some (.string s5) ∧ W.cell? ⟨w.heap.size, 6, none⟩ = some (.int .i64 s6) ∧ W.cell? ⟨w.heap.size, 7, none⟩ = some (.string s7) ∧ W.cell? ⟨y.g, 2, none⟩ = some (y.tv)) (ds := [5]) #[false, false, false, false, false, false, false, false, false, false, false] (by kernel_rfl) rfl rfl ⟨c0, c1, c2, c3, c4, c5, c6, c7, p2⟩ (fun hHeld => ?_)
  refine with_tabW regT_2.tab regT_2.bits (fun HT_ HW_ => ?_)
  refine pure_ (i := 0) (N := (some 17)) (v := ?_) (a' := ?_) #[true, false, false, false, false, false, false, false, false, false, false] rfl rfl (any_of HT_.out (by kernel_rfl)) (fun _ _ _ h => h) (Or.inl ⟨by rfl, ?_⟩) ?_ ?_
  rotate_left
  · intro w'
    go_simp
    with_reducible rfl
  rotate_left
  · simp only [Act.put, List.setIfInBounds_toArray, List.set_cons_zero, List.set_cons_succ, i64_w, i32_w]
    rfl
  refine pure_ (i := 1) (N := (some 18)) (v := ?_) (a' := ?_) #[true, true, false, false, false, false, false, false, false, false, false] rfl rfl (any_of HT_.out (by kernel_rfl)) (fun _ _ _ h => h) (Or.inl ⟨by rfl, ?_⟩) ?_ ?_
  rotate_left
  · intro w'
    go_simp
    with_reducible rfl
  rotate_left
  · simp only [Act.put, List.setIfInBounds_toArray, List.set_cons_zero, List.set_cons_succ, i64_w, i32_w]
    rfl
  refine pure_ (i := 2) (N := (some 19)) (v := ?_) (a' := ?_) #[true, true, true, false, false, false, false, false, false, false, false] rfl rfl (any_of HT_.out (by kernel_rfl)) (fun _ _ _ h => h) (Or.inl ⟨by rfl, ?_⟩) ?_ ?_
  rotate_left
  · intro w'
    go_simp
    with_reducible rfl
  rotate_left
  · simp only [Act.put, List.setIfInBounds_toArray, List.set_cons_zero, List.set_cons_succ, i64_w, i32_w]
    rfl
  refine take_ (i := 3) (N := (some 20)) (v := ?_) (a' := ?_) #[true, true, true, true, false, false, false, false, false, false, false] rfl rfl (take_ofW HT_.out HW_.out (by kernel_rfl)) (fun _ _ _ h => h) (Or.inl ⟨by rfl, ?_⟩) hHeld ?_ ?_
  rotate_left
  · rintro w' ⟨c0, c1, c2, c3, c4, c5, c6, c7, p2⟩
    go_simp
    with_reducible rfl
  rotate_left
  · simp only [Act.put, List.setIfInBounds_toArray, List.set_cons_zero, List.set_cons_succ, i64_w, i32_w]
    rfl
  refine take_ (i := 4) (N := (some 21)) (v := ?_) (a' := ?_) #[true, true, true, true, true, false, false, false, false, false, false] rfl rfl (take_ofW HT_.out HW_.out (by kernel_rfl)) (fun _ _ _ h => h) (Or.inl ⟨by rfl, ?_⟩) hHeld ?_ ?_
  rotate_left
  · rintro w' ⟨c0, c1, c2, c3, c4, c5, c6, c7, p2⟩
    go_simp
    with_reducible rfl
  rotate_left
  · simp only [Act.put, List.setIfInBounds_toArray, List.set_cons_zero, List.set_cons_succ, i64_w, i32_w]
    rfl
  refine last_ (i := 5) (N := (some 22)) #[true, true, true, true, true, true, false, false, false, false, false] rfl rfl (one_of HT_.out (by kernel_rfl)) (by decide) (fun K hK => ?_)
  refine goes_ Tryz.func102 (by kernel_rfl) rfl #[y.tv, evV ⟨s0, s1, s2, s3, s4, s5, s6, s7⟩, .func (.func 103) #[] #[]] (by rfl) rfl rfl (by (try simp only [List.map_toArray, List.map_cons, List.map_nil]); first | done | rfl) ?_
  refine (HBs.out).mono ?_
  rintro r w3 ⟨rfl, hb3⟩
  refine ⟨_, rfl, ?_⟩
  have HB3 := Aside0.mk ((below_drew (Below.refl w2.heap.size w2)).trans (hb3.mono (Nat.le_refl _)))
  clear hb3
  refine hK.out _ _ ?_
  clear hK K
  refine norm_ (a' := ?_) ?_ ?_
  rotate_left
  · show Act.put _ (some 22) _ = _
    simp only [Act.put, List.setIfInBounds_toArray, List.set_cons_zero, List.set_cons_succ, i64_w, i32_w]
    rfl
  refine pure_ (i := 6) (N := (some 16)) (v := ?_) (a' := ?_) #[true, true, true, true, true, true, true, false, false, false, false] rfl rfl (any_of HT_.out (by kernel_rfl)) (fun _ _ _ h => h) (Or.inl ⟨by rfl, ?_⟩) ?_ ?_
  rotate_left
  · intro w'
    go_simp
    with_reducible rfl
  rotate_left
  · simp only [Act.put, List.setIfInBounds_toArray, List.set_cons_zero, List.set_cons_succ, i64_w, i32_w]
    rfl
  refine pure_ (i := 7) (N := (some 23)) (v := ?_) (a' := ?_) #[true, true, true, true, true, true, true, true, false, false, false] rfl rfl (any_of HT_.out (by kernel_rfl)) (fun _ _ _ h => h) (Or.inl ⟨by rfl, ?_⟩) ?_ ?_
  rotate_left
  · intro w'
    go_simp
    with_reducible rfl
  rotate_left
  · simp only [Act.put, List.setIfInBounds_toArray, List.set_cons_zero, List.set_cons_succ, i64_w, i32_w]
    rfl
  refine pure_ (i := 8) (N := (some 24)) (v := ?_) (a' := ?_) #[true, true, true, true, true, true, true, true, true, false, false] rfl rfl (any_of HT_.out (by kernel_rfl)) (fun _ _ _ h => h) (Or.inl ⟨by rfl, ?_⟩) ?_ ?_
  rotate_left
  · intro w'
    go_simp
    with_reducible rfl
  rotate_left
  · simp only [Act.put, List.setIfInBounds_toArray, List.set_cons_zero, List.set_cons_succ, i64_w, i32_w]
    rfl
  refine pure_ (i := 9) (N := (some 5)) (v := ?_) (a' := ?_) #[true, true, true, true, true, true, true, true, true, true, false] rfl rfl (any_of HT_.out (by kernel_rfl)) (fun _ _ _ h => h) (Or.inl ⟨by rfl, ?_⟩) ?_ ?_
  rotate_left
  · intro w'
    go_simp
    with_reducible rfl
  rotate_left
  · simp only [Act.put, List.setIfInBounds_toArray, List.set_cons_zero, List.set_cons_succ, i64_w, i32_w]
    rfl
  refine pure_ (i := 10) (N := (some 6)) (v := ?_) (a' := ?_) #[true, true, true, true, true, true, true, true, true, true, true] rfl rfl (any_of HT_.out (by kernel_rfl)) (fun _ _ _ h => h) (Or.inl ⟨by rfl, ?_⟩) ?_ ?_
  rotate_left
  · intro w'
    go_simp
    with_reducible rfl
  rotate_left
  · simp only [Act.put, List.setIfInBounds_toArray, List.set_cons_zero, List.set_cons_succ, i64_w, i32_w]
    rfl
  refine done_ (done_of HT_.out (by kernel_rfl)) ?_
  clear c0 c1 c2 c3 c4 c5 c6 c7 p2
  have H3 := Aside0.mk (H2.out.below HB3.out)
  have HBx3 := Aside0.mk (blk_below HBx2.out HB3.out)
  have F3 := Aside0.mk (F2.out.below HB3.out)
  have hins := ei_insert_calls base y.tv x.taken.length i (evsC x.taken) (evC ⟨s0, s1, s2, s3, s4, s5, s6, s7⟩) w3.drew (by have h8 := (H3.out.below (below_drew (Below.refl _ _))).taken; rw [HY2.out.1.2.1] at h8; exact h8) evsC_one (by rfl) (fun u hu => evsC_one u (by have e9 : evsC [⟨s0, s1, s2, s3, s4, s5, s6, s7⟩] = evC ⟨s0, s1, s2, s3, s4, s5, s6, s7⟩ := rfl; rw [e9]; exact hu)) (by rw [HPos.out]; exact posW_le _ _) (by have := HG.out.2.2.2.2.1; omega) (Nat.le_trans HBase.out F3.out.size)
  have HIns := Aside0.mk hins
  clear hins HBs
  have c0 := blk_cell HBx3.out 0
  have c1 := blk_cell HBx3.out 1
  have c2 := blk_cell HBx3.out 2
  have c3 := blk_cell HBx3.out 3
  have c4 := blk_cell HBx3.out 4
  have c5 := blk_cell HBx3.out 5
  have c6 := blk_cell HBx3.out 6
  have c7 := blk_cell HBx3.out 7
  simp only [evC, List.getElem?_toArray, List.getElem?_cons_zero, List.getElem?_cons_succ] at c0 c1 c2 c3 c4 c5 c6 c7
  obtain ⟨p0, p1, p2, p3, p4, ps⟩ := five H3.out.blk
  rw [HY2.out.1.1, HY2.out.1.2.1] at p2
  clear p0 p1 p3 p4 ps
  have HN4 : Aside0 (∀ W, Fr (fun k => y.tv.ownBlock = some k) w3.drew W → W.cell? ⟨y.g, 2, none⟩ = some y.tv ∧ W.frozen? ⟨y.g, 2, none⟩ = false) := ⟨fun W hW => by
    have hb := H3.out.blk
    rw [HY2.out.1.1, HY2.out.1.2.1] at hb
    have h8 := hW.blk (w := w3.drew) hb (fun hk => by
      have h9 := HI.out.l3 _ hk
      rw [HI.out.l0] at h9; cases h9)
    exact ⟨blk_cell h8 2, blk_frozen h8 _⟩⟩
  go_wp2_with fail
  refine start_ (n := 12) (S := fun W => W.cell? ⟨w.heap.size, 0, none⟩ = some (.string s0) ∧ W.cell? ⟨w.heap.size, 1, none⟩ = some (.int .i64 s1) ∧ W.cell? ⟨w.heap.size, 2, none⟩ = some (.int .i64 s2) ∧ W.cell? ⟨w.heap.size, 3, none⟩ = some (.int .i64 s3) ∧ W.cell? ⟨w.heap.size, 4, none⟩ = some (.string s4) ∧ W.cell? ⟨w.heap.size, 5, none⟩ = some (.string s5) ∧ W.cell? ⟨w.heap.size, 6, none⟩ = some (.int .i64 s6) ∧ W.cell? ⟨w.heap.size, 7, none⟩ = some (.string s7) ∧ W.cell? ⟨y.g, 2, none⟩ = some (y.tv)) (ds := [8, 11]) #[false, false, false, false, false, false, false, false, false, false, false, false] (by kernel_rfl) rfl rfl ⟨c0, c1, c2, c3, c4, c5, c6, c7, p2⟩ (fun hHeld => ?_)
  refine with_tabW regT_3.tab regT_3.bits (fun HT_ HW_ => ?_)
  refine pure_ (i := 0) (N := (some 25)) (v := ?_) (a' := ?_) #[true, false, false, false, false, false, false, false, false, false, false, false] rfl rfl (any_of HT_.out (by kernel_rfl)) (fun _ _ _ h => h) (Or.inl ⟨by rfl, ?_⟩) ?_ ?_
  rotate_left
  · intro w'
    go_simp
    with_reducible rfl
  rotate_left
  · simp only [Act.put, List.setIfInBounds_toArray, List.set_cons_zero, List.set_cons_succ, i64_w, i32_w]
    rfl
  refine pure_ (i := 1) (N := (some 26)) (v := ?_) (a' := ?_) #[true, true, false, false, false, false, false, false, false, false, false, false] rfl rfl (any_of HT_.out (by kernel_rfl)) (fun _ _ _ h => h) (Or.inl ⟨by rfl, ?_⟩) ?_ ?_
  rotate_left
  · intro w'
    go_simp
    with_reducible rfl
  rotate_left
  · simp only [Act.put, List.setIfInBounds_toArray, List.set_cons_zero, List.set_cons_succ, i64_w, i32_w]
    rfl
  refine pure_ (i := 2) (N := (some 27)) (v := ?_) (a' := ?_) #[true, true, true, false, false, false, false, false, false, false, false, false] rfl rfl (any_of HT_.out (by kernel_rfl)) (fun _ _ _ h => h) (Or.inl ⟨by rfl, ?_⟩) ?_ ?_
  rotate_left
  · intro w'
    go_simp
    with_reducible rfl
  rotate_left
  · simp only [Act.put, List.setIfInBounds_toArray, List.set_cons_zero, List.set_cons_succ, i64_w, i32_w]
    rfl
  refine pure_ (i := 3) (N := (some 28)) (v := ?_) (a' := ?_) #[true, true, true, true, false, false, false, false, false, false, false, false] rfl rfl (any_of HT_.out (by kernel_rfl)) (fun _ _ _ h => h) (Or.inl ⟨by rfl, ?_⟩) ?_ ?_
  rotate_left
  · intro w'
    go_simp
    with_reducible rfl
  rotate_left
  · simp only [Act.put, List.setIfInBounds_toArray, List.set_cons_zero, List.set_cons_succ, i64_w, i32_w]
    rfl
  refine pure_ (i := 5) (N := (some 30)) (v := ?_) (a' := ?_) #[true, true, true, true, false, true, false, false, false, false, false, false] rfl rfl (any_of HT_.out (by kernel_rfl)) (fun _ _ _ h => h) (Or.inl ⟨by rfl, ?_⟩) ?_ ?_
  rotate_left
  · intro w'
    go_simp
    with_reducible rfl
  rotate_left
  · simp only [Act.put, List.setIfInBounds_toArray, List.set_cons_zero, List.set_cons_succ, i64_w, i32_w]
    rfl
  refine take_ (i := 4) (N := (some 29)) (v := ?_) (a' := ?_) #[true, true, true, true, true, true, false, false, false, false, false, false] rfl rfl (take_ofW HT_.out HW_.out (by kernel_rfl)) (fun _ _ _ h => h) (Or.inl ⟨by rfl, ?_⟩) hHeld ?_ ?_
  rotate_left
  · rintro w' ⟨c0, c1, c2, c3, c4, c5, c6, c7, p2⟩
    go_simp
    with_reducible rfl
  rotate_left
  · simp only [Act.put, List.setIfInBounds_toArray, List.set_cons_zero, List.set_cons_succ, i64_w, i32_w]
    rfl
  refine take_ (i := 6) (N := (some 31)) (v := ?_) (a' := ?_) #[true, true, true, true, true, true, true, false, false, false, false, false] rfl rfl (take_ofW HT_.out HW_.out (by kernel_rfl)) (fun _ _ _ h => h) (Or.inl ⟨by rfl, ?_⟩) hHeld ?_ ?_
  rotate_left
  · rintro w' ⟨c0, c1, c2, c3, c4, c5, c6, c7, p2⟩
    go_simp
    with_reducible rfl
  rotate_left
  · simp only [Act.put, List.setIfInBounds_toArray, List.set_cons_zero, List.set_cons_succ, i64_w, i32_w]
    rfl
  refine one_ (i := 7) (N := (some 32)) #[true, true, true, true, true, true, true, true, false, false, false, false] rfl rfl (one_of HT_.out (by kernel_rfl)) (by decide) (fun K hK => ?_)
  refine event_step (v := .slice (some ⟨w3.drew.heap.size, 0, none⟩) 1 1) (w1 := w3.drew.alloc (.cells (evC ⟨s0, s1, s2, s3, s4, s5, s6, s7⟩).toArray 28)) (by rfl) (by first | (go_simp; done) | (go_simp; rfl)) ?_
  have HAl := below_alloc (Below.refl w3.drew.heap.size w3.drew) (.cells (evC ⟨s0, s1, s2, s3, s4, s5, s6, s7⟩).toArray 28)
  refine hK.out _ _ ⟨pw_cell_below HAl c0, pw_cell_below HAl c1, pw_cell_below HAl c2, pw_cell_below HAl c3, pw_cell_below HAl c4, pw_cell_below HAl c5, pw_cell_below HAl c6, pw_cell_below HAl c7, pw_cell_below HAl p2⟩ (fun hHeld => ?_)
  clear hK K
  refine norm_ (a' := ?_) ?_ ?_
  rotate_left
  · show Act.put _ (some 32) _ = _
    simp only [Act.put, List.setIfInBounds_toArray, List.set_cons_zero, List.set_cons_succ, i64_w, i32_w]
    rfl
  refine last_ (i := 8) (N := (some 33)) #[true, true, true, true, true, true, true, true, true, false, false, false] rfl rfl (one_of HT_.out (by kernel_rfl)) (by decide) (fun K hK => ?_)
  refine goes_ Tryz.func104 (by kernel_rfl) rfl #[y.tv, .int .i64 i, .slice (some ⟨w3.drew.heap.size, 0, none⟩) 1 1] (by rfl) rfl rfl (by (try simp only [List.map_toArray, List.map_cons, List.map_nil]); first | done | rfl) ?_
  refine (HIns.out).mono ?_
  intro r w4 hr
  obtain ⟨v4, rfl, he4, hf4, hl4⟩ := evAt_put hr HPos.out
  obtain ⟨A4, k4, hv4, -, -, -⟩ := he4.form
  obtain ⟨n4, hn4⟩ : ∃ n4, n4 = (putE x.taken ⟨s0, s1, s2, s3, s4, s5, s6, s7⟩).length := ⟨_, rfl⟩
  rw [← hn4] at hv4
  have HV4 := Aside0.mk (And.intro hv4 hn4)
  subst hv4
  refine ⟨_, rfl, ?_⟩
  have HD4 := Aside0.mk (And.intro he4 (And.intro hf4 hl4))
  clear c0 c1 c2 c3 c4 c5 c6 c7 p2 hr he4 hf4 hl4 hn4
  obtain ⟨q2, z2⟩ := HN4.out w4 HD4.out.2.1
  refine hK.out _ _ ?_
  clear hK K
  refine norm_ (a' := ?_) ?_ ?_
  rotate_left
  · show Act.put _ (some 33) _ = _
    simp only [Act.put, List.setIfInBounds_toArray, List.set_cons_zero, List.set_cons_succ, i64_w, i32_w]
    rfl
  refine pure_ (i := 9) (N := (some 34)) (v := ?_) (a' := ?_) #[true, true, true, true, true, true, true, true, true, true, false, false] rfl rfl (any_of HT_.out (by kernel_rfl)) (fun _ _ _ h => h) (Or.inl ⟨by rfl, ?_⟩) ?_ ?_
  rotate_left
  · intro w'
    go_simp
    with_reducible rfl
  rotate_left
  · simp only [Act.put, List.setIfInBounds_toArray, List.set_cons_zero, List.set_cons_succ, i64_w, i32_w]
    rfl
  refine pure_ (i := 10) (N := (some 35)) (v := ?_) (a' := ?_) #[true, true, true, true, true, true, true, true, true, true, true, false] rfl rfl (any_of HT_.out (by kernel_rfl)) (fun _ _ _ h => h) (Or.inl ⟨by rfl, ?_⟩) ?_ ?_
  rotate_left
  · intro w'
    go_simp
    with_reducible rfl
  rotate_left
  · simp only [Act.put, List.setIfInBounds_toArray, List.set_cons_zero, List.set_cons_succ, i64_w, i32_w]
    rfl
  refine last_ (i := 11) (N := none) #[true, true, true, true, true, true, true, true, true, true, true, true] rfl rfl (one_of HT_.out (by kernel_rfl)) (by decide) (fun K hK => ?_)
  refine skip_ (w1 := w4.setCell ⟨y.g, 2, none⟩ (.slice A4 n4 k4)) (by rfl) rfl (by first | (go_simp; done) | (go_simp; rfl)) ?_
  refine hK.out _ _ ?_
  clear hK K
  refine done_ (done_of HT_.out (by kernel_rfl)) ?_
  clear q2 z2
  have hne : ∀ k, y.tv.ownBlock = some k → y.lab k = 3 := HI.out.l3
  have hlt3 : ∀ k, y.tv.ownBlock = some k → k < w.heap.size := HL.out.2.2.2.1
  have hgl : y.g < w.heap.size := HL.out.1
  have hg0 : y.lab y.g = 0 := HI.out.l0
  have hs3 : w.heap.size ≤ w3.drew.heap.size := F3.out.size
  have hbk3 : w3.drew.heap[y.g]? = some (.cells #[.pointer (some ⟨y2.cg, 0, none⟩), .pointer (some ⟨y2.sg, 0, none⟩), y.tv, y2.lv, .map (some y2.mb)] 91 (0, 0)) := by
    have hb := H3.out.blk
    rw [HY2.out.1.1, HY2.out.1.2.1] at hb
    exact hb
  obtain ⟨W5, hW5⟩ : ∃ W5, W5 = w4.setCell ⟨y.g, 2, none⟩ (.slice A4 n4 k4) := ⟨_, rfl⟩
  have hbk4 := HD4.out.2.1.blk (w := w3.drew) hbk3 (fun hk => by have h9 := hne _ hk; rw [hg0] at h9; cases h9)
  have hbk5 := blk_set hbk4 2 (.slice A4 n4 k4)
  have hf45 := set_fr w4 y.g 2 (.slice A4 n4 k4)
  rw [← hW5] at hbk5 hf45
  have hown4 : ∀ k, (Value.slice A4 n4 k4).ownBlock = some k → k ≠ y.g := fun k hk e => by
    subst e
    rcases HD4.out.2.2 with h8 | ⟨b, h8, h9⟩
    · rw [h8] at hk; have h9 := hne _ hk; rw [hg0] at h9; cases h9
    · rw [h8] at hk; injection hk with hk; omega
  have hev5 : EvAt W5 base (.slice A4 n4 k4) (putE x.taken ⟨s0, s1, s2, s3, s4, s5, s6, s7⟩) := HD4.out.1.fr hf45 hown4
  have hfr5 : Fr (fun k => k = y.g ∨ y.tv.ownBlock = some k) w3.drew W5 := (HD4.out.2.1.mono (fun k _ hk => .inr hk)).then_ hf45 (fun k hk => .inl (.inl hk))
  have H5 := Aside0.mk ((H3.out.below (below_drew (Below.refl _ _))).setTaken (v := .slice A4 n4 k4) (l := putE x.taken ⟨s0, s1, s2, s3, s4, s5, s6, s7⟩) (by rw [HY2.out.1.1, HY2.out.1.2.1]; exact hfr5) (by rw [HY2.out.1.1]; exact hbk5) hev5 (by rw [HY2.out.1.2.1]; exact HD4.out.2.2))
  have F5 : Aside0 (Fr (fun k => y.lab k ≤ 5) w W5) := ⟨F3.out.drew.then_ hfr5 (fun k hk => .inl (hk.elim (fun e => by rw [e, hg0]; decide) (fun h9 => by rw [hne k h9]; decide)))⟩
  have HBx5 : Aside0 (W5.heap[w.heap.size]? = some (.cells (evC ⟨s0, s1, s2, s3, s4, s5, s6, s7⟩).toArray 28 (0, 0))) := ⟨hfr5.blk (w := w3.drew) HBx3.out (fun hk => hk.elim (fun e => by omega) (fun h9 => Nat.lt_irrefl _ (hlt3 _ h9)))⟩
  obtain ⟨y5, hy5⟩ : ∃ y5 : Lay, y5 = { y2 with tv := .slice A4 n4 k4, lab := y2.more w3.drew.heap.size 3 } := ⟨_, rfl⟩
  rw [← hy5] at H5
  have HY5 : Aside0 ((y5.g = y.g ∧ y5.tv = .slice A4 n4 k4 ∧ y5.lv = y.lv ∧ y5.mb = y.mb ∧ y5.mn = y.mn ∧ y5.cn = y.cn ∧ y5.sn = y.sn + 1) ∧ ∀ k, y5.lab k ≤ 5 → y.lab k ≤ 5 ∨ w.heap.size ≤ k) := ⟨by
    obtain ⟨⟨a1, a2, a3, a4, a5, a6, a7, a8, a9, a10, a11⟩, a12⟩ := HY2.out
    refine ⟨by rw [hy5]; exact ⟨a1, rfl, a3, a8, a9, a10, a11⟩, fun k hk => ?_⟩
    rw [hy5] at hk
    rcases Lay.more_le k hk with h8 | h8
    · exact a12 k h8
    · exact .inr (Nat.le_trans hs3 h8)⟩
  have c3 := blk_cell HBx5.out 3
  have c4 := blk_cell HBx5.out 4
  simp only [evC, List.getElem?_toArray, List.getElem?_cons_zero, List.getElem?_cons_succ] at c3 c4
  have HW5 := Aside0.mk hW5
  clear hne hlt3 hs3 hbk3 hbk4 hbk5 hf45 hown4 hev5 hfr5 hy5 hW5 HN4 HIns
  rw [← HW5.out]
  by_cases hk : s3 = 14
  · subst hk
    obtain ⟨p0, p1, p2, p3, p4, ps⟩ := five H5.out.blk
    rw [HY5.out.1.1] at p0 p1 p2 p3 p4
    rw [HY5.out.1.2.2.2.1] at p4
    have hT5 := H5.out.gone.move (w' := W5.drew) rfl
    rw [HY5.out.1.2.2.2.1, HY5.out.1.2.2.2.2.1] at hT5
    have HT5 := Aside0.mk hT5
    clear p0 p1 p2 p3 hT5
    go_wp2_with fail
    go_still_tail 6, (by kernel_rfl)
    change wpList _ _ _ _ _ W5.drew
    refine wpList_store_T (mk := boolV) rfl _ _ _ 89 rfl Tryz.underlying9 Tryz.underlying89 rfl HT5.out (by have := HG.out.2.1; unfold maxLen; omega) s4 HG.out.2.2.1 true rfl rfl ?_
    intro w6 hm6 hg6 hs6
    have hmb : ∀ k, k = y.mb → y.lab k = 5 := fun k hk => by rw [hk]; exact HI.out.l5
    have hmbl : y.mb < w.heap.size := HL.out.2.2.2.2.2
    have hf6 : Fr (fun k => k = y.mb) W5.drew w6 := (Fr.refl _ _).grown hg6 (fun k hk => .inl (by injection hk with hk; exact hk.symm))
    have H6 := Aside0.mk ((H5.out.below (below_drew (Below.refl _ _))).setGone (n := y.mn + 1) (m := putL x.gone s4 true) (by rw [HY5.out.1.2.2.2.1]; exact hf6) (by rw [HY5.out.1.2.2.2.1]; exact hm6))
    have F6 : Aside0 (Fr (fun k => y.lab k ≤ 5) w w6) := ⟨F5.out.drew.then_ hf6 (fun k hk => .inl (by rw [hmb k hk]; decide))⟩
    have HBx6 : Aside0 (w6.heap[w.heap.size]? = some (.cells (evC ⟨s0, s1, s2, 14, s4, s5, s6, s7⟩).toArray 28 (0, 0))) := ⟨hf6.blk (w := W5.drew) HBx5.out (fun hk => by omega)⟩
    obtain ⟨y6, hy6⟩ : ∃ y6 : Lay, y6 = { y5 with mn := y.mn + 1 } := ⟨_, rfl⟩
    rw [← hy6] at H6
    have HY6 : Aside0 ((y6.g = y.g ∧ y6.tv = .slice A4 n4 k4 ∧ y6.lv = y.lv ∧ y6.mn = y.mn + 1 ∧ y6.cn = y.cn ∧ y6.sn = y.sn + 1) ∧ ∀ k, y6.lab k ≤ 5 → y.lab k ≤ 5 ∨ w.heap.size ≤ k) := ⟨by
      obtain ⟨⟨a1, a2, a3, a4, a5, a6, a7⟩, a8⟩ := HY5.out
      rw [hy6]; exact ⟨⟨a1, a2, a3, rfl, a6, a7⟩, a8⟩⟩
    have ht6 : EvAt w6 base (.slice A4 n4 k4) (putE x.taken ⟨s0, s1, s2, 14, s4, s5, s6, s7⟩) := by have h8 := H6.out.taken; rw [HY6.out.1.2.1] at h8; exact h8
    have hl6 : EvAt w6 base y.lv x.late := by have h8 := H6.out.late; rw [HY6.out.1.2.2.1] at h8; exact h8
    have hb6 := H6.out.blk
    rw [HY6.out.1.1, HY6.out.1.2.1, HY6.out.1.2.2.1] at hb6
    have l0 : y6.lab y.g = 0 := by have h8 := H6.out.l0; rw [HY6.out.1.1] at h8; exact h8
    have l3 : ∀ k, (Value.slice A4 n4 k4).ownBlock = some k → y6.lab k = 3 := fun k hk => H6.out.l3 k (by rw [HY6.out.1.2.1]; exact hk)
    have l4 : ∀ k, y.lv.ownBlock = some k → y6.lab k = 4 := fun k hk => H6.out.l4 k (by rw [HY6.out.1.2.2.1]; exact hk)
    have hn3 : ¬ (Value.slice A4 n4 k4).ownBlock = some y.g := fun hk => by have h9 := l3 _ hk; rw [l0] at h9; cases h9
    have hn4 : ¬ y.lv.ownBlock = some y.g := fun hk => by have h9 := l4 _ hk; rw [l0] at h9; cases h9
    have h34 : ∀ k, (Value.slice A4 n4 k4).ownBlock = some k → ¬ y.lv.ownBlock = some k := fun k h8 h9 => by have h1 := l3 k h8; rw [l4 k h9] at h1; cases h1
    have hlv6 : ∀ k, (Value.slice A4 n4 k4).ownBlock = some k → k ≠ w.heap.size := fun k hk e => by
      have h8 := HY6.out.2 k (by rw [l3 k hk]; decide)
      rcases HD4.out.2.2 with h9 | ⟨b, h9, h10⟩
      · rw [h9] at hk; have := HL.out.2.2.2.1 k hk; omega
      · rw [h9] at hk; injection hk with hk
        have := blk_lt HBx3.out
        have e3 : w3.drew.heap.size = w3.heap.size := rfl
        omega
    have HW1 := Aside0.mk (without_calls base (.slice A4 n4 k4) _ s4 w6.drew (ht6.below (below_drew (Below.refl _ _))) (by rw [putE_len]; have := HG.out.2.2.2.2.1; omega))
    have HW2 : Aside0 (∀ W, Fr (fun k => (Value.slice A4 n4 k4).ownBlock = some k) w6.drew W → Calls Tryz.prog 105 #[y.lv, .string s4] W fun e W' => DelPost base y.lv (x.late.filter (fun x => !goneB s4 x)) W e W') := ⟨fun W hW => without_calls base y.lv x.late s4 W (EvAt.fr (w := w6.drew) (hl6.below (below_drew (Below.refl _ _))) hW (fun k h8 h9 => h34 k h9 h8)) (by have := HG.out.2.2.2.2.2; omega)⟩
    have HN7 : Aside0 (∀ W, Fr (fun k => (Value.slice A4 n4 k4).ownBlock = some k) w6.drew W → W.cell? ⟨y.g, 2, none⟩ = some (.slice A4 n4 k4) ∧ W.cell? ⟨y.g, 3, none⟩ = some y.lv ∧ W.cell? ⟨w.heap.size, 4, none⟩ = some (.string s4)) := ⟨fun W hW => by
      have h8 := hW.blk (w := w6.drew) hb6 hn3
      have h9 := hW.blk (w := w6.drew) HBx6.out (fun hk => hlv6 _ hk rfl)
      exact ⟨blk_cell h8 2, blk_cell h8 3, blk_cell h9 4⟩⟩
    have HN8b : Aside0 (∀ W W', Fr (fun k => (Value.slice A4 n4 k4).ownBlock = some k) w6.drew W → Fr (fun k => y.lv.ownBlock = some k) W W' → W'.heap[y.g]? = some (.cells #[.pointer (some ⟨y6.cg, 0, none⟩), .pointer (some ⟨y6.sg, 0, none⟩), .slice A4 n4 k4, y.lv, .map (some y6.mb)] 91 (0, 0))) := ⟨fun W W' hW hW' => hW'.blk (hW.blk (w := w6.drew) hb6 hn3) hn4⟩
    have HN8 : Aside0 (∀ W W', Fr (fun k => (Value.slice A4 n4 k4).ownBlock = some k) w6.drew W → Fr (fun k => y.lv.ownBlock = some k) W W' → W'.cell? ⟨y.g, 2, none⟩ = some (.slice A4 n4 k4) ∧ W'.cell? ⟨y.g, 3, none⟩ = some y.lv ∧ W'.frozen? ⟨y.g, 2, none⟩ = false ∧ W'.frozen? ⟨y.g, 3, none⟩ = false) := ⟨fun W W' hW hW' => by
      have h9 := HN8b.out W W' hW hW'
      exact ⟨blk_cell h9 2, blk_cell h9 3, blk_frozen h9 _, blk_frozen h9 _⟩⟩
    have HLb := Aside0.mk (And.intro l0 (And.intro l3 (And.intro l4 (And.intro hn3 (And.intro hn4 h34)))))
    clear c3 c4 p4 hm6 hg6 hs6 hmb hmbl hf6 hy6 ht6 hl6 l0 l3 l4 hn3 hn4 h34 hlv6 HT5
    have c4 := blk_cell HBx6.out 4
    have p2 := blk_cell hb6 2
    have p3 := blk_cell hb6 3
    simp only [evC, List.getElem?_toArray, List.getElem?_cons_zero, List.getElem?_cons_succ] at c4 p2 p3
    clear hb6 ps
    go_wp2_with fail
    refine start_ (n := 22) (S := fun W => W.cell? ⟨y.g, 2, none⟩ = some (.slice A4 n4 k4) ∧ W.cell? ⟨y.g, 3, none⟩ = some (y.lv) ∧ W.cell? ⟨w.heap.size, 4, none⟩ = some (.string s4)) (ds := [15, 18, 21]) #[false, false, false, false, false, false, false, false, false, false, false, false, false, false, false, false, false, false, false, false, false, false] (by kernel_rfl) rfl rfl ⟨p2, p3, c4⟩ (fun hHeld => ?_)
    refine with_tabW regT_6.tab regT_6.bits (fun HT_ HW_ => ?_)
    refine pure_ (i := 0) (N := (some 45)) (v := ?_) (a' := ?_) #[true, false, false, false, false, false, false, false, false, false, false, false, false, false, false, false, false, false, false, false, false, false] rfl rfl (any_of HT_.out (by kernel_rfl)) (fun _ _ _ h => h) (Or.inl ⟨by rfl, ?_⟩) ?_ ?_
    rotate_left
    · intro w'
      go_simp
      with_reducible rfl
    rotate_left
    · simp only [Act.put, List.setIfInBounds_toArray, List.set_cons_zero, List.set_cons_succ, i64_w, i32_w]
      rfl
    refine pure_ (i := 1) (N := (some 46)) (v := ?_) (a' := ?_) #[true, true, false, false, false, false, false, false, false, false, false, false, false, false, false, false, false, false, false, false, false, false] rfl rfl (any_of HT_.out (by kernel_rfl)) (fun _ _ _ h => h) (Or.inl ⟨by rfl, ?_⟩) ?_ ?_
    rotate_left
    · intro w'
      go_simp
      with_reducible rfl
    rotate_left
    · simp only [Act.put, List.setIfInBounds_toArray, List.set_cons_zero, List.set_cons_succ, i64_w, i32_w]
      rfl
    refine pure_ (i := 2) (N := (some 47)) (v := ?_) (a' := ?_) #[true, true, true, false, false, false, false, false, false, false, false, false, false, false, false, false, false, false, false, false, false, false] rfl rfl (any_of HT_.out (by kernel_rfl)) (fun _ _ _ h => h) (Or.inl ⟨by rfl, ?_⟩) ?_ ?_
    rotate_left
    · intro w'
      go_simp
      with_reducible rfl
    rotate_left
    · simp only [Act.put, List.setIfInBounds_toArray, List.set_cons_zero, List.set_cons_succ, i64_w, i32_w]
      rfl
    refine pure_ (i := 3) (N := (some 48)) (v := ?_) (a' := ?_) #[true, true, true, true, false, false, false, false, false, false, false, false, false, false, false, false, false, false, false, false, false, false] rfl rfl (any_of HT_.out (by kernel_rfl)) (fun _ _ _ h => h) (Or.inl ⟨by rfl, ?_⟩) ?_ ?_
    rotate_left
    · intro w'
      go_simp
      with_reducible rfl
    rotate_left
    · simp only [Act.put, List.setIfInBounds_toArray, List.set_cons_zero, List.set_cons_succ, i64_w, i32_w]
      rfl
    refine pure_ (i := 4) (N := (some 49)) (v := ?_) (a' := ?_) #[true, true, true, true, true, false, false, false, false, false, false, false, false, false, false, false, false, false, false, false, false, false] rfl rfl (any_of HT_.out (by kernel_rfl)) (fun _ _ _ h => h) (Or.inl ⟨by rfl, ?_⟩) ?_ ?_
    rotate_left
    · intro w'
      go_simp
      with_reducible rfl
    rotate_left
    · simp only [Act.put, List.setIfInBounds_toArray, List.set_cons_zero, List.set_cons_succ, i64_w, i32_w]
      rfl
    refine pure_ (i := 6) (N := (some 51)) (v := ?_) (a' := ?_) #[true, true, true, true, true, false, true, false, false, false, false, false, false, false, false, false, false, false, false, false, false, false] rfl rfl (any_of HT_.out (by kernel_rfl)) (fun _ _ _ h => h) (Or.inl ⟨by rfl, ?_⟩) ?_ ?_
    rotate_left
    · intro w'
      go_simp
      with_reducible rfl
    rotate_left
    · simp only [Act.put, List.setIfInBounds_toArray, List.set_cons_zero, List.set_cons_succ, i64_w, i32_w]
      rfl
    refine pure_ (i := 9) (N := (some 54)) (v := ?_) (a' := ?_) #[true, true, true, true, true, false, true, false, false, true, false, false, false, false, false, false, false, false, false, false, false, false] rfl rfl (any_of HT_.out (by kernel_rfl)) (fun _ _ _ h => h) (Or.inl ⟨by rfl, ?_⟩) ?_ ?_
    rotate_left
    · intro w'
      go_simp
      with_reducible rfl
    rotate_left
    · simp only [Act.put, List.setIfInBounds_toArray, List.set_cons_zero, List.set_cons_succ, i64_w, i32_w]
      rfl
    refine pure_ (i := 10) (N := (some 55)) (v := ?_) (a' := ?_) #[true, true, true, true, true, false, true, false, false, true, true, false, false, false, false, false, false, false, false, false, false, false] rfl rfl (any_of HT_.out (by kernel_rfl)) (fun _ _ _ h => h) (Or.inl ⟨by rfl, ?_⟩) ?_ ?_
    rotate_left
    · intro w'
      go_simp
      with_reducible rfl
    rotate_left
    · simp only [Act.put, List.setIfInBounds_toArray, List.set_cons_zero, List.set_cons_succ, i64_w, i32_w]
      rfl
    refine pure_ (i := 11) (N := (some 56)) (v := ?_) (a' := ?_) #[true, true, true, true, true, false, true, false, false, true, true, true, false, false, false, false, false, false, false, false, false, false] rfl rfl (any_of HT_.out (by kernel_rfl)) (fun _ _ _ h => h) (Or.inl ⟨by rfl, ?_⟩) ?_ ?_
    rotate_left
    · intro w'
      go_simp
      with_reducible rfl
    rotate_left
    · simp only [Act.put, List.setIfInBounds_toArray, List.set_cons_zero, List.set_cons_succ, i64_w, i32_w]
      rfl
    refine pure_ (i := 13) (N := (some 58)) (v := ?_) (a' := ?_) #[true, true, true, true, true, false, true, false, false, true, true, true, false, true, false, false, false, false, false, false, false, false] rfl rfl (any_of HT_.out (by kernel_rfl)) (fun _ _ _ h => h) (Or.inl ⟨by rfl, ?_⟩) ?_ ?_
    rotate_left
    · intro w'
      go_simp
      with_reducible rfl
    rotate_left
    · simp only [Act.put, List.setIfInBounds_toArray, List.set_cons_zero, List.set_cons_succ, i64_w, i32_w]
      rfl
    refine take_ (i := 5) (N := (some 50)) (v := ?_) (a' := ?_) #[true, true, true, true, true, true, true, false, false, true, true, true, false, true, false, false, false, false, false, false, false, false] rfl rfl (take_ofW HT_.out HW_.out (by kernel_rfl)) (fun _ _ _ h => h) (Or.inl ⟨by rfl, ?_⟩) hHeld ?_ ?_
    rotate_left
    · rintro w' ⟨p2, p3, c4⟩
      go_simp
      with_reducible rfl
    rotate_left
    · simp only [Act.put, List.setIfInBounds_toArray, List.set_cons_zero, List.set_cons_succ, i64_w, i32_w]
      rfl
    refine take_ (i := 7) (N := (some 52)) (v := ?_) (a' := ?_) #[true, true, true, true, true, true, true, true, false, true, true, true, false, true, false, false, false, false, false, false, false, false] rfl rfl (take_ofW HT_.out HW_.out (by kernel_rfl)) (fun _ _ _ h => h) (Or.inl ⟨by rfl, ?_⟩) hHeld ?_ ?_
    rotate_left
    · rintro w' ⟨p2, p3, c4⟩
      go_simp
      with_reducible rfl
    rotate_left
    · simp only [Act.put, List.setIfInBounds_toArray, List.set_cons_zero, List.set_cons_succ, i64_w, i32_w]
      rfl
    refine take_ (i := 12) (N := (some 57)) (v := ?_) (a' := ?_) #[true, true, true, true, true, true, true, true, false, true, true, true, true, true, false, false, false, false, false, false, false, false] rfl rfl (take_ofW HT_.out HW_.out (by kernel_rfl)) (fun _ _ _ h => h) (Or.inl ⟨by rfl, ?_⟩) hHeld ?_ ?_
    rotate_left
    · rintro w' ⟨p2, p3, c4⟩
      go_simp
      with_reducible rfl
    rotate_left
    · simp only [Act.put, List.setIfInBounds_toArray, List.set_cons_zero, List.set_cons_succ, i64_w, i32_w]
      rfl
    refine take_ (i := 14) (N := (some 59)) (v := ?_) (a' := ?_) #[true, true, true, true, true, true, true, true, false, true, true, true, true, true, true, false, false, false, false, false, false, false] rfl rfl (take_ofW HT_.out HW_.out (by kernel_rfl)) (fun _ _ _ h => h) (Or.inl ⟨by rfl, ?_⟩) hHeld ?_ ?_
    rotate_left
    · rintro w' ⟨p2, p3, c4⟩
      go_simp
      with_reducible rfl
    rotate_left
    · simp only [Act.put, List.setIfInBounds_toArray, List.set_cons_zero, List.set_cons_succ, i64_w, i32_w]
      rfl
    refine one_ (i := 8) (N := (some 53)) #[true, true, true, true, true, true, true, true, true, true, true, true, true, true, true, false, false, false, false, false, false, false] rfl rfl (one_of HT_.out (by kernel_rfl)) (by decide) (fun K hK => ?_)
    refine goes_ Tryz.func105 (by kernel_rfl) rfl #[(.slice A4 n4 k4), .string s4] (by rfl) rfl rfl (by (try simp only [List.map_toArray, List.map_cons, List.map_nil]); first | done | rfl) ?_
    refine (HW1.out).mono ?_
    intro r w7 h7
    obtain ⟨v7, rfl, he7, hf7, hl7⟩ := h7
    obtain ⟨A7, k7, hv7, -, -, -⟩ := he7.form
    obtain ⟨n7, hn7⟩ : ∃ n7, n7 = (keepE (putE x.taken ⟨s0, s1, s2, 14, s4, s5, s6, s7⟩) s4).length := ⟨_, rfl⟩
    rw [show (List.filter (fun x => !goneB s4 x) (putE x.taken ⟨s0, s1, s2, 14, s4, s5, s6, s7⟩)).length = n7 from hn7.symm] at hv7
    subst hv7
    refine ⟨_, rfl, ?_⟩
    obtain ⟨q2, q3, q4⟩ := HN7.out _ hf7
    have HD7 := Aside0.mk (And.intro he7 (And.intro hf7 hl7))
    clear he7 hf7 hl7 hn7 p2 p3 c4
    refine hK.out _ _ ⟨q2, q3, q4⟩ (fun hHeld => ?_)
    clear hK K
    refine norm_ (a' := ?_) ?_ ?_
    rotate_left
    · show Act.put _ (some 53) _ = _
      simp only [Act.put, List.setIfInBounds_toArray, List.set_cons_zero, List.set_cons_succ, i64_w, i32_w]
      rfl
    refine last_ (i := 15) (N := (some 60)) #[true, true, true, true, true, true, true, true, true, true, true, true, true, true, true, true, false, false, false, false, false, false] rfl rfl (one_of HT_.out (by kernel_rfl)) (by decide) (fun K hK => ?_)
    refine goes_ Tryz.func105 (by kernel_rfl) rfl #[y.lv, .string s4] (by rfl) rfl rfl (by (try simp only [List.map_toArray, List.map_cons, List.map_nil]); first | done | rfl) ?_
    refine ((HW2.out w7 HD7.out.2.1)).mono ?_
    intro r w8 h8
    obtain ⟨v8, rfl, he8, hf8, hl8⟩ := h8
    obtain ⟨A8, k8, hv8, -, -, -⟩ := he8.form
    obtain ⟨n8, hn8⟩ : ∃ n8, n8 = (keepE x.late s4).length := ⟨_, rfl⟩
    rw [show (List.filter (fun x => !goneB s4 x) x.late).length = n8 from hn8.symm] at hv8
    subst hv8
    refine ⟨_, rfl, ?_⟩
    obtain ⟨t2, t3, t4, t5⟩ := HN8.out _ _ HD7.out.2.1 hf8
    have HD8 := Aside0.mk (And.intro he8 (And.intro hf8 hl8))
    clear he8 hf8 hl8 hn8 q2 q3 q4
    refine hK.out _ _ ?_
    clear hK K
    refine norm_ (a' := ?_) ?_ ?_
    rotate_left
    · show Act.put _ (some 60) _ = _
      simp only [Act.put, List.setIfInBounds_toArray, List.set_cons_zero, List.set_cons_succ, i64_w, i32_w]
      rfl
    refine pure_ (i := 16) (N := (some 61)) (v := ?_) (a' := ?_) #[true, true, true, true, true, true, true, true, true, true, true, true, true, true, true, true, true, false, false, false, false, false] rfl rfl (any_of HT_.out (by kernel_rfl)) (fun _ _ _ h => h) (Or.inl ⟨by rfl, ?_⟩) ?_ ?_
    rotate_left
    · intro w'
      go_simp
      with_reducible rfl
    rotate_left
    · simp only [Act.put, List.setIfInBounds_toArray, List.set_cons_zero, List.set_cons_succ, i64_w, i32_w]
      rfl
    refine pure_ (i := 17) (N := (some 62)) (v := ?_) (a' := ?_) #[true, true, true, true, true, true, true, true, true, true, true, true, true, true, true, true, true, true, false, false, false, false] rfl rfl (any_of HT_.out (by kernel_rfl)) (fun _ _ _ h => h) (Or.inl ⟨by rfl, ?_⟩) ?_ ?_
    rotate_left
    · intro w'
      go_simp
      with_reducible rfl
    rotate_left
    · simp only [Act.put, List.setIfInBounds_toArray, List.set_cons_zero, List.set_cons_succ, i64_w, i32_w]
      rfl
    refine last_ (i := 18) (N := none) #[true, true, true, true, true, true, true, true, true, true, true, true, true, true, true, true, true, true, true, false, false, false] rfl rfl (one_of HT_.out (by kernel_rfl)) (by decide) (fun K hK => ?_)
    refine skip_ (w1 := w8.setCell ⟨y.g, 2, none⟩ (.slice A7 n7 k7)) (by rfl) rfl (by first | (go_simp; done) | (go_simp; rfl)) ?_
    refine hK.out _ _ ?_
    clear hK K
    refine pure_ (i := 19) (N := (some 63)) (v := ?_) (a' := ?_) #[true, true, true, true, true, true, true, true, true, true, true, true, true, true, true, true, true, true, true, true, false, false] rfl rfl (any_of HT_.out (by kernel_rfl)) (fun _ _ _ h => h) (Or.inl ⟨by rfl, ?_⟩) ?_ ?_
    rotate_left
    · intro w'
      go_simp
      with_reducible rfl
    rotate_left
    · simp only [Act.put, List.setIfInBounds_toArray, List.set_cons_zero, List.set_cons_succ, i64_w, i32_w]
      rfl
    refine pure_ (i := 20) (N := (some 64)) (v := ?_) (a' := ?_) #[true, true, true, true, true, true, true, true, true, true, true, true, true, true, true, true, true, true, true, true, true, false] rfl rfl (any_of HT_.out (by kernel_rfl)) (fun _ _ _ h => h) (Or.inl ⟨by rfl, ?_⟩) ?_ ?_
    rotate_left
    · intro w'
      go_simp
      with_reducible rfl
    rotate_left
    · simp only [Act.put, List.setIfInBounds_toArray, List.set_cons_zero, List.set_cons_succ, i64_w, i32_w]
      rfl
    refine last_ (i := 21) (N := none) #[true, true, true, true, true, true, true, true, true, true, true, true, true, true, true, true, true, true, true, true, true, true] rfl rfl (one_of HT_.out (by kernel_rfl)) (by decide) (fun K hK => ?_)
    refine skip_ (w1 := (w8.setCell ⟨y.g, 2, none⟩ (.slice A7 n7 k7)).setCell ⟨y.g, 3, none⟩ (.slice A8 n8 k8)) (by rfl) rfl (by first | (go_simp; done) | (go_simp; rfl)) ?_
    refine hK.out _ _ ?_
    clear hK K
    refine done_ (done_of HT_.out (by kernel_rfl)) ?_
    have HFin : Aside0 (TakePost base y x ⟨s0, s1, s2, 14, s4, s5, s6, s7⟩ w (.returned (.int .i64 0)) ((w8.setCell ⟨y.g, 2, none⟩ (.slice A7 n7 k7)).setCell ⟨y.g, 3, none⟩ (.slice A8 n8 k8))) := ⟨by
      obtain ⟨l0, l3, l4, hn3, hn4, h34⟩ := HLb.out
      obtain ⟨he7, hf7, hl7⟩ := HD7.out
      obtain ⟨he8, hf8, hl8⟩ := HD8.out
      have hS : Fr (fun k => k = y.g) w8 ((w8.setCell ⟨y.g, 2, none⟩ (.slice A7 n7 k7)).setCell ⟨y.g, 3, none⟩ (.slice A8 n8 k8)) := (set_fr w8 y.g 2 _).then_ (set_fr _ y.g 3 _) (fun k hk => .inl hk)
      have hF : Fr (fun k => k = y.g ∨ (Value.slice A4 n4 k4).ownBlock = some k ∨ y.lv.ownBlock = some k) w6.drew ((w8.setCell ⟨y.g, 2, none⟩ (.slice A7 n7 k7)).setCell ⟨y.g, 3, none⟩ (.slice A8 n8 k8)) :=
        ((hf7.mono (fun k _ hk => .inr (.inl hk))).then_ (hf8.mono (fun k _ hk => hk)) (fun k hk => .inl (.inr (.inr hk)))).then_ hS (fun k hk => .inl (.inl hk))
      have hb9 := blk_set (blk_set (HN8b.out _ _ hf7 hf8) 2 (.slice A7 n7 k7)) 3 (.slice A8 n8 k8)
      have e7 := (he7.fr hf8 (fun k h1 h2 => h34 k (by rw [← hl7]; exact h1) h2)).fr hS (fun k h1 h2 => hn3 (by subst h2; rw [← hl7]; exact h1))
      have e8 := he8.fr hS (fun k h1 h2 => hn4 (by subst h2; rw [← hl8]; exact h1))
      have hA := (H6.out.below (below_drew (Below.refl _ _))).setBoth (v := .slice A7 n7 k7) (v2 := .slice A8 n8 k8) (l := keepE (putE x.taken ⟨s0, s1, s2, 14, s4, s5, s6, s7⟩) s4) (l2 := keepE x.late s4) (by rw [HY6.out.1.1, HY6.out.1.2.1, HY6.out.1.2.2.1]; exact hF) (by rw [HY6.out.1.1]; exact hb9) e7 e8 (by rw [HY6.out.1.2.1]; exact hl7) (by rw [HY6.out.1.2.2.1]; exact hl8)
      refine ⟨rfl, { y6 with tv := .slice A7 n7 k7, lv := .slice A8 n8 k8 }, L', ⟨by unfold takeP; rw [if_pos rfl]; exact hA, ?_, HY6.out.2, HY6.out.1.1, ?_, ?_, ?_⟩, HM.out, HY6.out.1.2.2.2.2.1⟩
      · exact F6.out.drew.then_ hF (fun k hk => by
          rcases hk with rfl | hk | hk
          · exact HY6.out.2 _ (by rw [l0]; decide)
          · exact HY6.out.2 _ (by rw [l3 k hk]; decide)
          · exact HY6.out.2 _ (by rw [l4 k hk]; decide))
      · show y6.cn ≤ y.cn + 1; rw [HY6.out.1.2.2.2.2.1]; omega
      · show y6.sn ≤ y.sn + 1; rw [HY6.out.1.2.2.2.2.2]; omega
      · show y6.mn ≤ y.mn + 1; rw [HY6.out.1.2.2.2.1]; omega⟩
    clear t2 t3 t4 t5
    go_wp2
    go_ret
    exact HFin.out
  · have hk1 : (s3 == 14) = false := by simpa using hk
    have HFin : Aside0 (TakePost base y x ⟨s0, s1, s2, s3, s4, s5, s6, s7⟩ w (.returned (.int .i64 0)) W5) := ⟨by
      refine ⟨rfl, y5, L', ⟨by unfold takeP; rw [if_neg (show ¬ (Ev.mk s0 s1 s2 s3 s4 s5 s6 s7).kind = 14 from hk)]; exact H5.out, F5.out, HY5.out.2, HY5.out.1.1, ?_, ?_, ?_⟩, HM.out, HY5.out.1.2.2.2.2.2.1⟩
      · rw [HY5.out.1.2.2.2.2.2.1]; omega
      · rw [HY5.out.1.2.2.2.2.2.2]; omega
      · rw [HY5.out.1.2.2.2.2.1]; omega⟩
    clear c4 hk
    go_wp2
    go_ret
    exact HFin.out
end Go.Proofs.YtmmfoeckggpgdaaGreatDoor
set_option linter.unusedSimpArgs false
set_option linter.unusedVariables false
namespace Go.Proofs.YtmmfoeckggpgdaaGreatDoor
open Go.RowKit Go.Lib Go.Maps Go.Proofs.YtmmfoeckggpgdaaGreatDoorW.PrintWords Go.Proofs.YtmmfoeckggpgdaaGreatDoorW.PrintLast

def OfferPost (base : Nat) (y : Lay) (x : In) (e : Ev) (now : Int) (w : World) (r : Ending) (W : World) : Prop := ∃ v y' x', r = .returned (.int .i64 v) ∧ Offered x e now v x' ∧ InStep base w y W y' x'
theorem evAt_more {w : World} {base : Nat} {v : Value} {l : List Ev} {e : Ev} (h : w.ownsRow base 28 8 v (l.length + 1) (evsC l ++ evC e)) : EvAt w base v (l ++ [e]) := by
  unfold EvAt
  have e1 : evsC (l ++ [e]) = evsC l ++ evC e := by rw [evsC_append]; show evsC l ++ (evC e ++ []) = _; rw [List.append_nil]
  rw [List.length_append, List.length_singleton, e1]
  exact h
theorem cells8 {w : World} {b : Nat} {e : Ev} {t : TypeId} (h : w.heap[b]? = some (.cells (evC e).toArray t (0, 0))) : EvRd w b 0 e :=
  ⟨blk_cell h 0, blk_cell h 1, blk_cell h 2, blk_cell h 3, blk_cell h 4, blk_cell h 5, blk_cell h 6, blk_cell h 7⟩
def regU_7.T : Bool × List (List Nat × List Nat) := (true, [([], []), ([], []), ([1], [1]), ([2], [2]), ([3], [3]), ([], []), ([5], [5]), ([4, 6], [4, 6]), ([0, 0, 1, 2, 3, 4, 5, 6, 7], [0]), ([8, 0, 1, 2, 3, 4, 5, 6, 7], [8]), ([9, 7, 7, 0, 1, 2, 3, 4, 5, 6, 7], [7, 9])])
def regU_7.B : List Nat := [0, 0, 2, 6, 14, 0, 32, 126, 255, 511, 1023]
theorem regU_7.tab : rtab .any (opsOf Tryz.f21 7) = regU_7.T := by kernel_rfl
theorem regU_7.bits : waitsOk regU_7.T.2 regU_7.B = true := by kernel_rfl
set_option maxHeartbeats 4000000 in
set_option maxRecDepth 100000 in
theorem offer_calls (base : Nat) (y : Lay) (x : In) (e : Ev) (now m : Int) (w : World) (h : InAt w base y x) (hbase : base ≤ w.heap.size) (hm : w.cell? ⟨0, 0, none⟩ = some (.int .i64 m)) (htx : e.text.size < 4294967281) (hps : e.person.size ≤ maxLen) (hss : e.source.size ≤ maxLen) (hcn : y.cn ≤ 1000000000) (hsn : y.sn ≤ 1000000000) (hmn : y.mn ≤ 1000000000) (hm5 : ¬ y.lab 0 ≤ 5) (ho : Ordered x.taken) (htl : x.taken.length ≤ 1000000) (hll : x.late.length ≤ 1000000) :
    Calls Tryz.prog 21 #[.pointer (some ⟨y.g, 0, none⟩), evV e, .int .i64 now] w fun r W => OfferPost base y x e now w r W := by
  obtain ⟨s0, s1, s2, s3, s4, s5, s6, s7⟩ := e
  obtain ⟨wA, hwA⟩ : ∃ wA, wA = w.alloc (.cells (evC ⟨s0, s1, s2, s3, s4, s5, s6, s7⟩).toArray 28) := ⟨_, rfl⟩
  have hbox0 : wA.heap[w.heap.size]? = some (.cells (evC ⟨s0, s1, s2, s3, s4, s5, s6, s7⟩).toArray 28 (0, 0)) := by rw [hwA]; exact heap_alloc_new w _
  have HwA : Aside0 (Below w.heap.size w wA) := ⟨by rw [hwA]; exact below_alloc (Below.refl _ _) _⟩
  have HL := Aside0.mk h.lts
  have HI := Aside0.mk h
  have H0 := Aside0.mk (h.below HwA.out)
  have HG := Aside0.mk (And.intro hsn (And.intro hmn (And.intro hps (And.intro ho (And.intro htl hll)))))
  have HG2 := Aside0.mk (And.intro hm (And.intro htx (And.intro hss (And.intro hcn hm5))))
  have HTk := Aside0.mk (tick_calls y.cg y.cb y.cn x.clk now wA H0.out.clk)
  have HBase := Aside0.mk hbase
  have HWA := Aside0.mk hwA
  have HBx := Aside0.mk hbox0
  obtain ⟨p0, p1, p2, p3, p4, ps⟩ := five H0.out.blk
  rw [hwA] at p0
  clear h hbase hm htx hps hss hcn hsn hmn hm5 ho htl hll hwA hbox0 p1 p2 p3 p4 ps
  unfold evV
  go_enter Tryz.func21, Tryz.ntmps21
  go_wp2_with fail
  rw [show (w.alloc (.cells (evC ⟨s0, s1, s2, s3, s4, s5, s6, s7⟩).toArray 28)) = wA from HWA.out.symm]
  refine HTk.out.mono ?_
  rintro r w1 ⟨rfl, hc1, hf1⟩
  have H1 := Aside0.mk (H0.out.setClk hf1 (fun k hk => .inl hk) hc1)
  have F1 : Aside0 (Fr (fun k => y.lab k ≤ 5) w w1) := ⟨(Fr.of_below HwA.out _).then_ hf1 (fun k hk => .inl (by rw [HI.out.l1 k (.inl hk)]; decide))⟩
  have HBx1 : Aside0 (w1.heap[w.heap.size]? = some (.cells (evC ⟨s0, s1, s2, s3, s4, s5, s6, s7⟩).toArray 28 (0, 0))) := ⟨hf1.blk HBx.out (fun hk => Nat.lt_irrefl _ (HL.out.2.1 _ (.inl hk)))⟩
  have HM1 : Aside0 (w1.cell? ⟨0, 0, none⟩ = some (.int .i64 m)) := ⟨F1.out.cell HG2.out.1 HG2.out.2.2.2.2⟩
  clear hc1 hf1 p0 HTk HBx
  obtain ⟨c0, c1, c2, c3, c4, c5, c6, c7⟩ := cells8 HBx1.out
  simp only [Nat.zero_add] at c0 c1 c2 c3 c4 c5 c6 c7
  have hlook := look_calls base y { x with clk := tickC x.clk now } ⟨s0, s1, s2, s3, s4, s5, s6, s7⟩ m w1 H1.out HM1.out HG2.out.2.1 HG.out.2.2.1 HG2.out.2.2.1 HG.out.1 (by have := HG.out.2.2.2.2.1; show x.taken.length < 1048576; omega)
  have e9 : lookB { x with clk := tickC x.clk now } ⟨s0, s1, s2, s3, s4, s5, s6, s7⟩ = lookB x ⟨s0, s1, s2, s3, s4, s5, s6, s7⟩ := rfl
  rw [e9] at hlook
  have HLook := Aside0.mk hlook
  clear hlook e9
  go_wp2_with fail
  refine HLook.out.mono ?_
  rintro r w2 ⟨rfl, hb2⟩
  have H2 := Aside0.mk (H1.out.below hb2)
  have F2 := Aside0.mk (F1.out.below hb2)
  have HBx2 := Aside0.mk (blk_below HBx1.out hb2)
  clear hb2 c0 c1 c2 c3 c4 c5 c6 c7 H1 F1 HBx1 HM1 HLook
  obtain ⟨v, hv⟩ : ∃ v, v = lookB x ⟨s0, s1, s2, s3, s4, s5, s6, s7⟩ := ⟨_, rfl⟩
  rw [← hv]
  have hcase : v ≠ 0 → Aside0 (OfferPost base y x ⟨s0, s1, s2, s3, s4, s5, s6, s7⟩ now w (.returned (.int .i64 v)) w2) := fun hn => ⟨⟨v, y, _, rfl, .inl ⟨by rw [← hv]; exact hn, hv, rfl⟩, ⟨H2.out, F2.out, fun k hk => .inl hk, rfl, Nat.le_succ _, Nat.le_succ _, Nat.le_succ _⟩⟩⟩
  have hvals : v = 0 ∨ v = 1 ∨ v = 3 := by rw [hv]; exact lookB_val _ _
  rcases hvals with rfl | rfl | rfl
  rotate_left
  · have HF := hcase (by decide)
    clear hcase hv
    go_wp2
    go_ret
    exact HF.out
  · have HF := hcase (by decide)
    clear hcase hv
    go_wp2
    go_ret
    exact HF.out
  have HZ := Aside0.mk hv.symm
  have HLz := Aside0.mk (lookB_zero hv.symm)
  clear hcase hv
  have HHear := Aside0.mk (hear_calls y.cg y.cb y.cn (tickC x.clk now) s0 s2 now w2.drew (H2.out.below (below_drew (Below.refl _ _))).clk HG2.out.2.2.2.1)
  obtain ⟨hb, hhb⟩ : ∃ hb, hb = hearsB (tickC x.clk now) s0 s2 now := ⟨_, rfl⟩
  rw [← hhb] at HHear
  have HHb := Aside0.mk hhb
  clear hhb
  obtain ⟨p0, p1, p2, p3, p4, ps⟩ := five H2.out.blk
  have c0 := blk_cell HBx2.out 0
  have c2 := blk_cell HBx2.out 2
  simp only [evC, List.getElem?_toArray, List.getElem?_cons_zero, List.getElem?_cons_succ] at c0 c2
  clear p1 p2 p3 p4 ps
  go_wp2_with fail
  go_still_tail 9, (by kernel_rfl)
  change wpList _ _ _ _ _ w2.drew
  go_wp2_with fail
  refine HHear.out.mono ?_
  rintro r w3 ⟨rfl, hc3, hf3⟩
  have H3 := Aside0.mk ((H2.out.below (below_drew (Below.refl _ _))).setClk hf3 (fun k hk => hk) hc3)
  have F3 : Aside0 (Fr (fun k => y.lab k ≤ 5) w w3) := ⟨F2.out.drew.then_ hf3 (fun k hk => .inl (by rw [HI.out.l1 k hk]; decide))⟩
  have HBx3 : Aside0 (w3.heap[w.heap.size]? = some (.cells (evC ⟨s0, s1, s2, s3, s4, s5, s6, s7⟩).toArray 28 (0, 0))) := ⟨hf3.blk (w := w2.drew) HBx2.out (fun hk => Nat.lt_irrefl _ (HL.out.2.1 _ hk))⟩
  clear hc3 hf3 c0 c2 p0 HHear
  obtain ⟨c0, c1, c2, c3, c4, c5, c6, c7⟩ := cells8 HBx3.out
  simp only [Nat.zero_add] at c0 c1 c2 c3 c4 c5 c6 c7
  cases hb
  · clear c0 c1 c2 c3 c4 c5 c6 c7
    have hcont : Calls Tryz.prog 53 #[y.lv, .func (.func 54) #[] #[.pointer (some ⟨w.heap.size, 0, none⟩)]] w3 fun e w' => e = .returned (.bool (x.late.any (sameB ⟨s0, s1, s2, s3, s4, s5, s6, s7⟩))) ∧ Below w3.heap.size w3 w' :=
      contains_calls 54 (.pointer (some ⟨w.heap.size, 0, none⟩)) (sameB ⟨s0, s1, s2, s3, s4, s5, s6, s7⟩) base y.lv x.late w3 (enters_of Tryz.func54 (by kernel_rfl) rfl) H3.out.late (fun W a hW => lateF_calls a _ w.heap.size W ((cells8 HBx3.out).below hW))
    have HCont := Aside0.mk hcont
    obtain ⟨q, hq⟩ : ∃ q, q = x.late.any (sameB ⟨s0, s1, s2, s3, s4, s5, s6, s7⟩) := ⟨_, rfl⟩
    rw [← hq] at HCont
    have HQ := Aside0.mk hq
    obtain ⟨p0, p1, p2, p3, p4, ps⟩ := five H3.out.blk
    clear hcont hq p0 p1 p2 p4 ps
    go_wp2_with fail
    refine HCont.out.mono ?_
    rintro r w5 ⟨rfl, hb5⟩
    have H5 := Aside0.mk (H3.out.below hb5)
    have F5 := Aside0.mk (F3.out.below hb5)
    have HBx5 := Aside0.mk (blk_below HBx3.out hb5)
    clear hb5 p3 HCont
    cases q
    · have HLP : Aside0 (lateP x.late ⟨s0, s1, s2, s3, s4, s5, s6, s7⟩ = x.late ++ [⟨s0, s1, s2, s3, s4, s5, s6, s7⟩]) := ⟨by unfold lateP; rw [← HQ.out]; rfl⟩
      have HOne : Aside0 (∀ u ∈ evC ⟨s0, s1, s2, s3, s4, s5, s6, s7⟩, u.oneCell' = true) := ⟨fun u hu => evsC_one u (by have e9 : evsC [⟨s0, s1, s2, s3, s4, s5, s6, s7⟩] = evC ⟨s0, s1, s2, s3, s4, s5, s6, s7⟩ := rfl; rw [e9]; exact hu)⟩
      have HLate := Aside0.mk (H5.out.below (below_drew (Below.refl _ _))).late
      have HBs5 : Aside0 (base ≤ w5.drew.heap.size) := ⟨Nat.le_trans HBase.out F5.out.size⟩
      have HBig : Aside0 ((x.late.length + 1) * 96 ≤ 140737488355328) := ⟨by have := HG.out.2.2.2.2.2; omega⟩
      have HN6b : Aside0 (∀ W, w5.drew.grownBy W y.lv.ownBlock → W.heap[y.g]? = some (.cells #[.pointer (some ⟨y.cg, 0, none⟩), .pointer (some ⟨y.sg, 0, none⟩), y.tv, y.lv, .map (some y.mb)] 91 (0, 0))) := ⟨fun W hW => (hW.block _ (blk_lt H5.out.blk) (fun hk => by
        have h9 := HI.out.l4 _ hk.symm
        rw [HI.out.l0] at h9; cases h9)).trans H5.out.blk⟩
      have HN6 : Aside0 (∀ W, w5.drew.grownBy W y.lv.ownBlock → W.cell? ⟨y.g, 3, none⟩ = some y.lv ∧ W.frozen? ⟨y.g, 3, none⟩ = false) := ⟨fun W hW => ⟨blk_cell (HN6b.out W hW) 3, blk_frozen (HN6b.out W hW) _⟩⟩
      obtain ⟨p0, p1, p2, p3, p4, ps⟩ := five H5.out.blk
      obtain ⟨c0, c1, c2, c3, c4, c5, c6, c7⟩ := cells8 HBx5.out
      simp only [Nat.zero_add] at c0 c1 c2 c3 c4 c5 c6 c7
      clear p0 p1 p2 p4 ps
      go_wp2_with fail
      refine start_ (n := 11) (S := fun W => W.cell? ⟨w.heap.size, 0, none⟩ = some (.string s0) ∧ W.cell? ⟨w.heap.size, 1, none⟩ = some (.int .i64 s1) ∧ W.cell? ⟨w.heap.size, 2, none⟩ = some (.int .i64 s2) ∧ W.cell? ⟨w.heap.size, 3, none⟩ = some (.int .i64 s3) ∧ W.cell? ⟨w.heap.size, 4, none⟩ = some (.string s4) ∧ W.cell? ⟨w.heap.size, 5, none⟩ = some (.string s5) ∧ W.cell? ⟨w.heap.size, 6, none⟩ = some (.int .i64 s6) ∧ W.cell? ⟨w.heap.size, 7, none⟩ = some (.string s7) ∧ W.cell? ⟨y.g, 3, none⟩ = some (y.lv)) (ds := [7, 10]) #[false, false, false, false, false, false, false, false, false, false, false] (by kernel_rfl) rfl rfl ⟨c0, c1, c2, c3, c4, c5, c6, c7, p3⟩ (fun hHeld => ?_)
      refine with_tabW regU_7.tab regU_7.bits (fun HT_ HW_ => ?_)
      refine pure_ (i := 0) (N := (some 38)) (v := ?_) (a' := ?_) #[true, false, false, false, false, false, false, false, false, false, false] rfl rfl (any_of HT_.out (by kernel_rfl)) (fun _ _ _ h => h) (Or.inl ⟨by rfl, ?_⟩) ?_ ?_
      rotate_left
      · intro w'
        go_simp
        with_reducible rfl
      rotate_left
      · simp only [Act.put, List.setIfInBounds_toArray, List.set_cons_zero, List.set_cons_succ, i64_w, i32_w]
        rfl
      refine pure_ (i := 1) (N := (some 39)) (v := ?_) (a' := ?_) #[true, true, false, false, false, false, false, false, false, false, false] rfl rfl (any_of HT_.out (by kernel_rfl)) (fun _ _ _ h => h) (Or.inl ⟨by rfl, ?_⟩) ?_ ?_
      rotate_left
      · intro w'
        go_simp
        with_reducible rfl
      rotate_left
      · simp only [Act.put, List.setIfInBounds_toArray, List.set_cons_zero, List.set_cons_succ, i64_w, i32_w]
        rfl
      refine pure_ (i := 2) (N := (some 40)) (v := ?_) (a' := ?_) #[true, true, true, false, false, false, false, false, false, false, false] rfl rfl (any_of HT_.out (by kernel_rfl)) (fun _ _ _ h => h) (Or.inl ⟨by rfl, ?_⟩) ?_ ?_
      rotate_left
      · intro w'
        go_simp
        with_reducible rfl
      rotate_left
      · simp only [Act.put, List.setIfInBounds_toArray, List.set_cons_zero, List.set_cons_succ, i64_w, i32_w]
        rfl
      refine pure_ (i := 3) (N := (some 41)) (v := ?_) (a' := ?_) #[true, true, true, true, false, false, false, false, false, false, false] rfl rfl (any_of HT_.out (by kernel_rfl)) (fun _ _ _ h => h) (Or.inl ⟨by rfl, ?_⟩) ?_ ?_
      rotate_left
      · intro w'
        go_simp
        with_reducible rfl
      rotate_left
      · simp only [Act.put, List.setIfInBounds_toArray, List.set_cons_zero, List.set_cons_succ, i64_w, i32_w]
        rfl
      refine take_ (i := 4) (N := (some 42)) (v := ?_) (a' := ?_) #[true, true, true, true, true, false, false, false, false, false, false] rfl rfl (take_ofW HT_.out HW_.out (by kernel_rfl)) (fun _ _ _ h => h) (Or.inl ⟨by rfl, ?_⟩) hHeld ?_ ?_
      rotate_left
      · rintro w' ⟨c0, c1, c2, c3, c4, c5, c6, c7, p3⟩
        go_simp
        with_reducible rfl
      rotate_left
      · simp only [Act.put, List.setIfInBounds_toArray, List.set_cons_zero, List.set_cons_succ, i64_w, i32_w]
        rfl
      refine take_ (i := 5) (N := (some 43)) (v := ?_) (a' := ?_) #[true, true, true, true, true, true, false, false, false, false, false] rfl rfl (take_ofW HT_.out HW_.out (by kernel_rfl)) (fun _ _ _ h => h) (Or.inl ⟨by rfl, ?_⟩) hHeld ?_ ?_
      rotate_left
      · rintro w' ⟨c0, c1, c2, c3, c4, c5, c6, c7, p3⟩
        go_simp
        with_reducible rfl
      rotate_left
      · simp only [Act.put, List.setIfInBounds_toArray, List.set_cons_zero, List.set_cons_succ, i64_w, i32_w]
        rfl
      refine one_ (i := 6) (N := (some 44)) #[true, true, true, true, true, true, true, false, false, false, false] rfl rfl (one_of HT_.out (by kernel_rfl)) (by decide) (fun K hK => ?_)
      refine event_step (v := .slice (some ⟨w5.drew.heap.size, 0, none⟩) 1 1) (w1 := w5.drew.alloc (.cells (evC ⟨s0, s1, s2, s3, s4, s5, s6, s7⟩).toArray 28)) (by rfl) (by first | (go_simp; done) | (go_simp; rfl)) ?_
      have HAl := below_alloc (Below.refl w5.drew.heap.size w5.drew) (.cells (evC ⟨s0, s1, s2, s3, s4, s5, s6, s7⟩).toArray 28)
      refine hK.out _ _ ⟨pw_cell_below HAl c0, pw_cell_below HAl c1, pw_cell_below HAl c2, pw_cell_below HAl c3, pw_cell_below HAl c4, pw_cell_below HAl c5, pw_cell_below HAl c6, pw_cell_below HAl c7, pw_cell_below HAl p3⟩ (fun hHeld => ?_)
      clear hK K
      refine norm_ (a' := ?_) ?_ ?_
      rotate_left
      · show Act.put _ (some 44) _ = _
        simp only [Act.put, List.setIfInBounds_toArray, List.set_cons_zero, List.set_cons_succ, i64_w, i32_w]
        rfl
      refine last_ (i := 7) (N := (some 45)) #[true, true, true, true, true, true, true, true, false, false, false] rfl rfl (one_of HT_.out (by kernel_rfl)) (by decide) (fun K hK => ?_)
      refine step_append_cells (w0 := w5.drew) (W := w5.drew) base (by rfl) _ _ 22 28 _ 8 96 rfl Tryz.underlying22 ei_info rfl (by decide) (by decide) y.lv x.late.length (evsC x.late) (evC ⟨s0, s1, s2, s3, s4, s5, s6, s7⟩) rfl rfl (by rfl) HOne.out HLate.out (Below.refl _ _) HBs5.out HBig.out ?_
      intro v6 w6 ho6 hb6 hg6 hl6
      have he6 : EvAt w6 base v6 (x.late ++ [⟨s0, s1, s2, s3, s4, s5, s6, s7⟩]) := evAt_more ho6
      obtain ⟨A6, k6, hv6, -, -, -⟩ := he6.form
      obtain ⟨n6, hn6⟩ : ∃ n6, n6 = (x.late ++ [(⟨s0, s1, s2, s3, s4, s5, s6, s7⟩ : Ev)]).length := ⟨_, rfl⟩
      rw [← hn6] at hv6
      subst hv6
      have HD6 := Aside0.mk (And.intro he6 (And.intro hg6 hl6))
      obtain ⟨q3, z3⟩ := HN6.out w6 hg6
      clear ho6 hb6 hg6 hl6 he6 hn6 c0 c1 c2 c3 c4 c5 c6 c7 p3
      refine hK.out _ _ ?_
      clear hK K
      refine norm_ (a' := ?_) ?_ ?_
      rotate_left
      · show Act.put _ (some 45) _ = _
        simp only [Act.put, List.setIfInBounds_toArray, List.set_cons_zero, List.set_cons_succ, i64_w, i32_w]
        rfl
      refine pure_ (i := 8) (N := (some 46)) (v := ?_) (a' := ?_) #[true, true, true, true, true, true, true, true, true, false, false] rfl rfl (any_of HT_.out (by kernel_rfl)) (fun _ _ _ h => h) (Or.inl ⟨by rfl, ?_⟩) ?_ ?_
      rotate_left
      · intro w'
        go_simp
        with_reducible rfl
      rotate_left
      · simp only [Act.put, List.setIfInBounds_toArray, List.set_cons_zero, List.set_cons_succ, i64_w, i32_w]
        rfl
      refine pure_ (i := 9) (N := (some 47)) (v := ?_) (a' := ?_) #[true, true, true, true, true, true, true, true, true, true, false] rfl rfl (any_of HT_.out (by kernel_rfl)) (fun _ _ _ h => h) (Or.inl ⟨by rfl, ?_⟩) ?_ ?_
      rotate_left
      · intro w'
        go_simp
        with_reducible rfl
      rotate_left
      · simp only [Act.put, List.setIfInBounds_toArray, List.set_cons_zero, List.set_cons_succ, i64_w, i32_w]
        rfl
      refine last_ (i := 10) (N := none) #[true, true, true, true, true, true, true, true, true, true, true] rfl rfl (one_of HT_.out (by kernel_rfl)) (by decide) (fun K hK => ?_)
      refine skip_ (w1 := w6.setCell ⟨y.g, 3, none⟩ (.slice A6 n6 k6)) (by rfl) rfl (by first | (go_simp; done) | (go_simp; rfl)) ?_
      refine hK.out _ _ ?_
      clear hK K
      refine done_ (done_of HT_.out (by kernel_rfl)) ?_
      have HFin : Aside0 (OfferPost base y x ⟨s0, s1, s2, s3, s4, s5, s6, s7⟩ now w (.returned (.int .i64 2)) (w6.setCell ⟨y.g, 3, none⟩ (.slice A6 n6 k6))) := ⟨by
        have hgl := HL.out.1
        have l0 := HI.out.l0
        have l4 := HI.out.l4
        have l4s := HL.out.2.2.2.2.1
        obtain ⟨he6, hg6, hl6⟩ := HD6.out
        have hset := set_fr w6 y.g 3 (.slice A6 n6 k6)
        have hown6 : ∀ k, (Value.slice A6 n6 k6).ownBlock = some k → k ≠ y.g := fun k hk e => by
          subst e
          have h5 := F5.out.size
          have e5 : w5.drew.heap.size = w5.heap.size := rfl
          rcases hl6 with h8 | ⟨b, h8, h9⟩
          · rw [h8] at hk; have h9 := l4 _ hk; rw [l0] at h9; cases h9
          · rw [h8] at hk; injection hk with hk; omega
        have hfr : Fr (fun k => k = y.g ∨ y.lv.ownBlock = some k) w5.drew (w6.setCell ⟨y.g, 3, none⟩ (.slice A6 n6 k6)) := ((Fr.refl _ w5.drew).grown hg6 (fun k hk => .inl (.inr hk))).then_ hset (fun k hk => .inl (.inl hk))
        have hA := (H5.out.below (below_drew (Below.refl _ _))).setLate (v := .slice A6 n6 k6) (l := x.late ++ [⟨s0, s1, s2, s3, s4, s5, s6, s7⟩]) hfr (blk_set (HN6b.out w6 hg6) 3 _) (he6.fr hset hown6) hl6
        refine ⟨2, { y with cn := y.cn + 1, lv := .slice A6 n6 k6, lab := y.more w5.drew.heap.size 4 }, _, rfl, .inr (.inr ⟨HZ.out, HHb.out.symm, rfl, rfl⟩), ⟨by rw [HLP.out]; exact hA, F5.out.drew.then_ hfr (fun k hk => .inl (hk.elim (fun e => by rw [e, l0]; decide) (fun h9 => by rw [l4 k h9]; decide))), ?_, rfl, Nat.le_refl _, Nat.le_succ _, Nat.le_succ _⟩⟩
        intro k hk
        exact (Lay.more_le k hk).imp id (fun h8 => Nat.le_trans F5.out.size h8)⟩
      clear q3 z3
      go_wp2
      go_ret
      exact HFin.out
    · have HLP : Aside0 (lateP x.late ⟨s0, s1, s2, s3, s4, s5, s6, s7⟩ = x.late) := ⟨by unfold lateP; rw [← HQ.out]; rfl⟩
      have HFin : Aside0 (OfferPost base y x ⟨s0, s1, s2, s3, s4, s5, s6, s7⟩ now w (.returned (.int .i64 2)) w5) := ⟨by
        refine ⟨2, { y with cn := y.cn + 1 }, _, rfl, .inr (.inr ⟨HZ.out, HHb.out.symm, rfl, rfl⟩), ⟨?_, F5.out, fun k hk => .inl hk, rfl, Nat.le_refl _, Nat.le_succ _, Nat.le_succ _⟩⟩
        rw [HLP.out]; exact H5.out⟩
      go_wp2
      go_ret
      exact HFin.out
  · have htk := take_calls base { y with cn := y.cn + 1 } { x with clk := hearC (tickC x.clk now) s0 s2 now } ⟨s0, s1, s2, s3, s4, s5, s6, s7⟩ w3 H3.out (Nat.le_trans HBase.out F3.out.size) (mayB_at HLz.out.1).1 (mayB_at HLz.out.1).2.2.1 (mayB_at HLz.out.1).2.2.2 HLz.out.2.2 HG.out.1 HG.out.2.1 HG.out.2.2.1 HG.out.2.2.2.1 HG.out.2.2.2.2.1 HG.out.2.2.2.2.2
    have HTake := Aside0.mk htk
    clear htk
    go_wp2_with fail
    refine HTake.out.mono ?_
    intro r w4 hr
    have HR := Aside0.mk hr
    clear hr
    obtain ⟨rfl, h8⟩ := HR.out
    clear h8
    have HFin : Aside0 (OfferPost base y x ⟨s0, s1, s2, s3, s4, s5, s6, s7⟩ now w (.returned (.int .i64 0)) w4) := ⟨by
      obtain ⟨_, y', had', hst, hm, hcn⟩ := HR.out
      refine ⟨0, y', _, rfl, .inr (.inl ⟨HZ.out, HHb.out.symm, rfl, had', hm, rfl⟩), ⟨hst.at_, F3.out.then_ hst.fr (fun k hk => .inl hk), fun k hk => (hst.lab k hk).imp id (fun h9 => Nat.le_trans F3.out.size h9), hst.g, by rw [hcn]; exact Nat.le_refl _, hst.sn, hst.mn⟩⟩⟩
    clear c0 c1 c2 c3 c4 c5 c6 c7
    go_wp2
    go_ret
    exact HFin.out
end Go.Proofs.YtmmfoeckggpgdaaGreatDoor
