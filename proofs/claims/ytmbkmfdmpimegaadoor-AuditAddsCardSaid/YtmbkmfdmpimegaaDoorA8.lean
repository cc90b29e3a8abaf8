/-
  The walks of audit.Check, lives and handed.
-/
import Derived.Test.YtmbkmfdmpimegaaDoorA7
set_option linter.unusedSimpArgs false
set_option linter.unusedVariables false
namespace Go.Proofs.YtmbkmfdmpimegaaDoor
open Go.RowKit Go.Lib Go.Sort Go.Proofs.YtmbkmfdmpimegaaDoorW.PrintWords Go.Proofs.YtmbkmfdmpimegaaDoorW.PrintLast Go.Proofs.YtmbkmfdmpimegaaDoor.PR

/-- the place of the first entry that isn't right -/
def checkE (ahead : Int) : List S30 → Nat → Int
  | [], k => k
  | x :: l, k => if mayE x.f0 x.f1 x.f2 x.f3 = true then (if x.f4 = sumE ahead x.f0 x.f1 x.f2 x.f3 then checkE x.f4 l (k + 1) else k) else k
theorem checkE_drop (ahead : Int) (es : List S30) (k : Nat) (hk : k < es.length) : checkE ahead (es.drop k) k = if mayE es[k].f0 es[k].f1 es[k].f2 es[k].f3 = true then (if es[k].f4 = sumE ahead es[k].f0 es[k].f1 es[k].f2 es[k].f3 then checkE es[k].f4 (es.drop (k + 1)) (k + 1) else k) else k := by
  rw [List.drop_eq_getElem_cons hk]; rfl

def reg18_5.T : Bool × List (List Nat × List Nat) := (true, [([], []), ([0], [0]), ([1], [1]), ([2, 1], [2]), ([3], [3]), ([4, 3], [3, 4]), ([3], [3]), ([3], [3]), ([6, 7, 3, 3], [3, 6, 7]), ([5, 8, 3], [3, 5, 8]), ([3, 9], [3, 9])])
def reg18_5.B : List Nat := [0, 1, 3, 7, 15, 31, 15, 15, 207, 511, 1023]
theorem reg18_5.tab : rtab .any (opsOf Tryd.f18 5) = reg18_5.T := by kernel_rfl
theorem reg18_5.bits : waitsOk reg18_5.T.2 reg18_5.B = true := by kernel_rfl
set_option maxRecDepth 100000 in
set_option maxHeartbeats 4000000 in
theorem check_calls (seed : Int) (A : Option Addr) (c : Nat) (es : List S30) (w : World) (hC : Kd.C k30 w A es.length es) (ht : Tab w) :
    Calls Tryd.prog 18 #[.int .u64 seed, .slice A es.length c] w fun e w' => e = .returned (.int .i64 (checkE seed es 0)) ∧ Below w.heap.size w w' := by
  have HC := Aside0.mk hC
  have hn := hC.2.1
  have HT := Aside0.mk ht
  clear hC ht
  go_enter Tryd.func18, Tryd.ntmps18
  go_wp2
  go_loopw [5, 11] (fun s i wr => ∃ (k : Nat) (ahead : Int), i = .int .i64 k ∧ s = .int .u64 ahead ∧ k ≤ es.length ∧ Aside0 (checkE ahead (es.drop k) k = checkE seed es 0) ∧ Aside0 (Below w.heap.size w wr)) (fun _ i _ => es.length - (intOf i).toNat)
  case atStart => exact ⟨0, seed, rfl, rfl, Nat.zero_le _, ⟨rfl⟩, ⟨Below.refl _ _⟩⟩
  case round =>
    obtain ⟨k, ahead, rfl, rfl, hk, HE, HBr⟩ := hrel
    by_cases hlt : k < es.length
    · cases A with
      | none => obtain ⟨ad, e, _⟩ := HC.out.2.2 (by omega); cases e
      | some ad =>
        obtain ⟨A3, c3, h0, h1, h2, h3, h4, hl3, hC3⟩ := ent_get (Kd.C_below HC.out HBr.out) k hlt
        have HD := Aside0.mk (HE.out.symm.trans (checkE_drop ahead es k hlt))
        obtain ⟨x, hx⟩ : ∃ x, x = es[k] := ⟨_, rfl⟩
        rw [← hx] at h0 h1 h2 h3 h4 hl3 hC3 HD
        clear hx
        have HC3 := Aside0.mk hC3
        clear hC3
        go_wp2_with fail
        obtain ⟨W0, e0⟩ : ∃ W0, W0 = wr.alloc (.cells #[.int .i64 x.f0, .int .i64 x.f1, .string x.f2, .slice A3 x.f3.length c3, .int .u64 x.f4] 33) := ⟨_, rfl⟩
        have b1 : W0.heap[wr.heap.size]? = some (.cells #[.int .i64 x.f0, .int .i64 x.f1, .string x.f2, .slice A3 x.f3.length c3, .int .u64 x.f4] 33) := by rw [e0]; exact heap_alloc_new wr _
        have HB0 : Aside0 (Below w.heap.size w W0) := by rw [e0]; exact ⟨below_alloc HBr.out _⟩
        have HC0 : Aside0 (Kd.C Kd.string W0 A3 x.f3.length x.f3) := by rw [e0]; exact ⟨Kd.C_alloc HC3.out _⟩
        rw [← e0]
        clear e0 h0 h1 h2 h3 h4
        obtain ⟨c0, c1, c2, c3', c4, cs⟩ := five b1
        have HQ0 := Aside0.mk (below_drew (Below.refl W0.heap.size W0))
        have B1 := Aside0.mk b1
        clear b1
        cases hm : mayE x.f0 x.f1 x.f2 x.f3 with
        | false =>
          have HM := Aside0.mk hm
          clear hm
          refine start_ (n := 11) (S := fun W => W.cell? ⟨wr.heap.size, 0, none⟩ = some (.int .i64 x.f0) ∧ W.cell? ⟨wr.heap.size, 1, none⟩ = some (.int .i64 x.f1) ∧ W.cell? ⟨wr.heap.size, 2, none⟩ = some (.string x.f2) ∧ W.cell? ⟨wr.heap.size, 3, none⟩ = some (.slice A3 x.f3.length c3) ∧ W.cell? ⟨wr.heap.size, 4, none⟩ = some (.int .u64 x.f4)) (ds := []) #[false, false, false, false, false, false, false, false, false, false, false] (by kernel_rfl) rfl rfl ⟨pw_cell_below HQ0.out c0, pw_cell_below HQ0.out c1, pw_cell_below HQ0.out c2, pw_cell_below HQ0.out c3', pw_cell_below HQ0.out c4⟩ (fun hHeld => ?_)
          refine with_tabW reg18_5.tab reg18_5.bits (fun HT_ HW_ => ?_)
          refine take_ (i := 0) (N := (some 16)) (v := ?_) (a' := ?_) #[true, false, false, false, false, false, false, false, false, false, false] rfl rfl (take_ofW HT_.out HW_.out (by kernel_rfl)) (fun _ _ _ h => h) (Or.inl ⟨by rfl, ?_⟩) hHeld ?_ ?_
          rotate_left
          · rintro w' ⟨s0, s1, s2, s3, s4⟩
            go_simp
            with_reducible rfl
          rotate_left
          · simp only [Act.put, List.setIfInBounds_toArray, List.set_cons_zero, List.set_cons_succ, i64_w, i32_w]
            rfl
          refine one_ (i := 1) (N := (some 17)) #[true, true, false, false, false, false, false, false, false, false, false] rfl rfl (one_of HT_.out (by kernel_rfl)) (by decide) (fun K hK => ?_)
          refine goes_ Tryd.func26 (by kernel_rfl) rfl #[.agg #[.int .i64 x.f0, .int .i64 x.f1, .string x.f2, .slice A3 x.f3.length c3, .int .u64 x.f4]] (by rfl) rfl rfl (by (try simp only [List.map_toArray, List.map_cons, List.map_nil]); first | done | rfl) ?_
          refine (mayE_calls x.f0 x.f1 x.f2 _ _ x.f3 x.f4 _ (Kd.C_below HC0.out HQ0.out)).mono ?_
          rintro e w' ⟨rfl, hb⟩
          refine ⟨_, rfl, ?_⟩
          rw [HM.out]
          have HQ1 := Aside0.mk (HQ0.out.trans (hb.mono HQ0.out.size))
          clear hb
          refine hK.out _ _ ⟨pw_cell_below HQ1.out c0, pw_cell_below HQ1.out c1, pw_cell_below HQ1.out c2, pw_cell_below HQ1.out c3', pw_cell_below HQ1.out c4⟩ (fun hHeld => ?_)
          clear hK K
          refine norm_ (a' := ?_) ?_ ?_
          rotate_left
          · show Act.put _ (some 17) _ = _
            simp only [Act.put, List.setIfInBounds_toArray, List.set_cons_zero, List.set_cons_succ, i64_w, i32_w]
            rfl
          refine pure_ (i := 2) (N := (some 18)) (v := ?_) (a' := ?_) #[true, true, true, false, false, false, false, false, false, false, false] rfl rfl (any_of HT_.out (by kernel_rfl)) (fun _ _ _ h => h) (Or.inl ⟨by rfl, ?_⟩) ?_ ?_
          rotate_left
          · intro w'
            go_simp
            with_reducible rfl
          rotate_left
          · simp only [Act.put, List.setIfInBounds_toArray, List.set_cons_zero, List.set_cons_succ, i64_w, i32_w]
            rfl
          refine pure_ (i := 3) (N := (some 19)) (v := ?_) (a' := ?_) #[true, true, true, true, false, false, false, false, false, false, false] rfl rfl (any_of HT_.out (by kernel_rfl)) (fun _ _ _ h => h) (Or.inl ⟨by rfl, ?_⟩) ?_ ?_
          rotate_left
          · intro w'
            go_simp
            with_reducible rfl
          rotate_left
          · simp only [Act.put, List.setIfInBounds_toArray, List.set_cons_zero, List.set_cons_succ, i64_w, i32_w]
            rfl
          refine pure_ (i := 4) (N := (some 20)) (v := undef) (a' := ?_) #[true, true, true, true, true, false, false, false, false, false, false] rfl rfl (any_of HT_.out (by kernel_rfl)) (fun _ _ _ h => h) (Or.inr ⟨by rfl, rfl⟩) ?_ ?_
          rotate_left
          · simp only [Act.put, List.setIfInBounds_toArray, List.set_cons_zero, List.set_cons_succ, i64_w, i32_w]
            rfl
          refine pure_ (i := 5) (N := (some 21)) (v := undef) (a' := ?_) #[true, true, true, true, true, true, false, false, false, false, false] rfl rfl (any_of HT_.out (by kernel_rfl)) (fun _ _ _ h => h) (Or.inr ⟨by rfl, rfl⟩) ?_ ?_
          rotate_left
          · simp only [Act.put, List.setIfInBounds_toArray, List.set_cons_zero, List.set_cons_succ, i64_w, i32_w]
            rfl
          refine pure_ (i := 6) (N := (some 22)) (v := undef) (a' := ?_) #[true, true, true, true, true, true, true, false, false, false, false] rfl rfl (any_of HT_.out (by kernel_rfl)) (fun _ _ _ h => h) (Or.inr ⟨by rfl, rfl⟩) ?_ ?_
          rotate_left
          · simp only [Act.put, List.setIfInBounds_toArray, List.set_cons_zero, List.set_cons_succ, i64_w, i32_w]
            rfl
          refine pure_ (i := 7) (N := (some 23)) (v := undef) (a' := ?_) #[true, true, true, true, true, true, true, true, false, false, false] rfl rfl (any_of HT_.out (by kernel_rfl)) (fun _ _ _ h => h) (Or.inr ⟨by rfl, rfl⟩) ?_ ?_
          rotate_left
          · simp only [Act.put, List.setIfInBounds_toArray, List.set_cons_zero, List.set_cons_succ, i64_w, i32_w]
            rfl
          refine pure_ (i := 8) (N := (some 24)) (v := undef) (a' := ?_) #[true, true, true, true, true, true, true, true, true, false, false] rfl rfl (any_of HT_.out (by kernel_rfl)) (fun _ _ _ h => h) (Or.inr ⟨by rfl, rfl⟩) ?_ ?_
          rotate_left
          · simp only [Act.put, List.setIfInBounds_toArray, List.set_cons_zero, List.set_cons_succ, i64_w, i32_w]
            rfl
          refine pure_ (i := 9) (N := (some 25)) (v := undef) (a' := ?_) #[true, true, true, true, true, true, true, true, true, true, false] rfl rfl (any_of HT_.out (by kernel_rfl)) (fun _ _ _ h => h) (Or.inr ⟨by rfl, rfl⟩) ?_ ?_
          rotate_left
          · simp only [Act.put, List.setIfInBounds_toArray, List.set_cons_zero, List.set_cons_succ, i64_w, i32_w]
            rfl
          refine pure_ (i := 10) (N := (some 26)) (v := ?_) (a' := ?_) #[true, true, true, true, true, true, true, true, true, true, true] rfl rfl (any_of HT_.out (by kernel_rfl)) (fun _ _ _ h => h) (Or.inl ⟨by rfl, ?_⟩) ?_ ?_
          rotate_left
          · intro w'
            go_simp
            with_reducible rfl
          rotate_left
          · simp only [Act.put, List.setIfInBounds_toArray, List.set_cons_zero, List.set_cons_succ, i64_w, i32_w]
            rfl
          refine done_ (done_of HT_.out (by kernel_rfl)) ?_
          all_goals
            have HB1 := Aside0.mk (HB0.out.trans ((‹Aside0 (Below W0.heap.size W0 _)›).out.mono HB0.out.size))
            go_wp2
            go_ret
            exact ⟨ret_int (by rw [HD.out, if_neg (by rw [HM.out]; simp)]), HB1.out⟩
        | true =>
          have HM := Aside0.mk hm
          have HP := Aside0.mk (mayE_parts hm)
          clear hm
          cases hs : (x.f4 != sumE ahead x.f0 x.f1 x.f2 x.f3) with
          | true =>
            go_region_held3 (fun W => W.cell? ⟨wr.heap.size, 0, none⟩ = some (.int .i64 x.f0) ∧ W.cell? ⟨wr.heap.size, 1, none⟩ = some (.int .i64 x.f1) ∧ W.cell? ⟨wr.heap.size, 2, none⟩ = some (.string x.f2) ∧ W.cell? ⟨wr.heap.size, 3, none⟩ = some (.slice A3 x.f3.length c3) ∧ W.cell? ⟨wr.heap.size, 4, none⟩ = some (.int .u64 x.f4)) (exact ⟨pw_cell_below (‹Aside0 (Below W0.heap.size W0 _)›).out c0, pw_cell_below (‹Aside0 (Below W0.heap.size W0 _)›).out c1, pw_cell_below (‹Aside0 (Below W0.heap.size W0 _)›).out c2, pw_cell_below (‹Aside0 (Below W0.heap.size W0 _)›).out c3', pw_cell_below (‹Aside0 (Below W0.heap.size W0 _)›).out c4⟩) (first | (go_at_call 26; refine (mayE_calls _ _ _ _ _ x.f3 _ _ (Kd.C_below HC0.out (‹Aside0 (Below W0.heap.size W0 _)›).out)).mono ?_; (rintro e w' ⟨rfl, hb⟩); rw [HM.out]; have HQ1 := Aside0.mk ((‹Aside0 (Below W0.heap.size W0 _)›).out.trans (hb.mono (‹Aside0 (Below W0.heap.size W0 _)›).out.size)); clear hb) | (go_at_call 27; refine (sumE_calls _ _ _ _ _ x.f3 _ _ _ (Kd.C_below HC0.out (‹Aside0 (Below W0.heap.size W0 _)›).out) (HT.out.below (HB0.out.trans ((‹Aside0 (Below W0.heap.size W0 _)›).out.mono HB0.out.size))) (by have := HP.out; omega) (by have := HP.out; omega) (by have := HP.out; omega) (by have := HP.out; omega) (by have := HP.out; omega) (fun s hs => by have := nameB_size (HP.out.2.2.2.2.2.2 s hs); omega) (by have := nameB_size HP.out.2.2.2.2.1; omega)).mono ?_; (rintro e w' ⟨rfl, hb⟩); have HQ1 := Aside0.mk ((‹Aside0 (Below W0.heap.size W0 _)›).out.trans (hb.mono (‹Aside0 (Below W0.heap.size W0 _)›).out.size)); clear hb))
  
            all_goals
              have HS := Aside0.mk hs
              clear hs
              have HB1 := Aside0.mk (HB0.out.trans ((‹Aside0 (Below W0.heap.size W0 _)›).out.mono HB0.out.size))
              go_wp2
              go_ret
              exact ⟨ret_int (by rw [HD.out, if_pos HM.out, if_neg (by simpa using HS.out)]), HB1.out⟩
          | false =>
            go_region_held3 (fun W => W.cell? ⟨wr.heap.size, 0, none⟩ = some (.int .i64 x.f0) ∧ W.cell? ⟨wr.heap.size, 1, none⟩ = some (.int .i64 x.f1) ∧ W.cell? ⟨wr.heap.size, 2, none⟩ = some (.string x.f2) ∧ W.cell? ⟨wr.heap.size, 3, none⟩ = some (.slice A3 x.f3.length c3) ∧ W.cell? ⟨wr.heap.size, 4, none⟩ = some (.int .u64 x.f4)) (exact ⟨pw_cell_below (‹Aside0 (Below W0.heap.size W0 _)›).out c0, pw_cell_below (‹Aside0 (Below W0.heap.size W0 _)›).out c1, pw_cell_below (‹Aside0 (Below W0.heap.size W0 _)›).out c2, pw_cell_below (‹Aside0 (Below W0.heap.size W0 _)›).out c3', pw_cell_below (‹Aside0 (Below W0.heap.size W0 _)›).out c4⟩) (first | (go_at_call 26; refine (mayE_calls _ _ _ _ _ x.f3 _ _ (Kd.C_below HC0.out (‹Aside0 (Below W0.heap.size W0 _)›).out)).mono ?_; (rintro e w' ⟨rfl, hb⟩); rw [HM.out]; have HQ1 := Aside0.mk ((‹Aside0 (Below W0.heap.size W0 _)›).out.trans (hb.mono (‹Aside0 (Below W0.heap.size W0 _)›).out.size)); clear hb) | (go_at_call 27; refine (sumE_calls _ _ _ _ _ x.f3 _ _ _ (Kd.C_below HC0.out (‹Aside0 (Below W0.heap.size W0 _)›).out) (HT.out.below (HB0.out.trans ((‹Aside0 (Below W0.heap.size W0 _)›).out.mono HB0.out.size))) (by have := HP.out; omega) (by have := HP.out; omega) (by have := HP.out; omega) (by have := HP.out; omega) (by have := HP.out; omega) (fun s hs => by have := nameB_size (HP.out.2.2.2.2.2.2 s hs); omega) (by have := nameB_size HP.out.2.2.2.2.1; omega)).mono ?_; (rintro e w' ⟨rfl, hb⟩); have HQ1 := Aside0.mk ((‹Aside0 (Below W0.heap.size W0 _)›).out.trans (hb.mono (‹Aside0 (Below W0.heap.size W0 _)›).out.size)); clear hb))
  
            all_goals
              have HS := Aside0.mk hs
              clear hs
              have HQ9 := (‹Aside0 (Below W0.heap.size W0 _)›)
              have HB1 := Aside0.mk (HB0.out.trans (HQ9.out.mono HB0.out.size))
              obtain ⟨d0, d1, d2, d3, d4, ds⟩ := five (blk_below B1.out HQ9.out)
              go_wp2
              go_roundw
              case rel => exact ⟨k + 1, _, by go_num, rfl, by omega, ⟨by rw [HD.out, if_pos HM.out, if_pos (by simpa using HS.out)]⟩, HB1⟩
              case measure => simp [intOf]; omega
    · go_wp2
      go_ret
      exact ⟨ret_int (by rw [← HE.out, List.drop_of_length_le (by omega)]; unfold checkE; omega), HBr.out⟩
end Go.Proofs.YtmbkmfdmpimegaaDoor
