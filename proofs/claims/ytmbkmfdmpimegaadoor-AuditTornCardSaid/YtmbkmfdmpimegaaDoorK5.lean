/-
  The walk of entry: the entry of a line, or that it is none.
-/
import Derived.Test.YtmbkmfdmpimegaaDoorK4
set_option linter.unusedVariables false
set_option linter.unusedSimpArgs false
namespace Go.Proofs.YtmbkmfdmpimegaaDoor
open Go.RowKit Go.Lib Go.Sort Go.Proofs.YtmbkmfdmpimegaaDoorW.PrintWords Go.Proofs.YtmbkmfdmpimegaaDoorW.PrintLast Go.Proofs.YtmbkmfdmpimegaaDoor.PR

/-- a text's parts -/
def partsB (c : UInt8) (s : ByteArray) : List ByteArray := Lib.splitB ⟨#[c]⟩ 0 (Lib.countB s ⟨#[c]⟩) s
theorem partsB_len (c : UInt8) (s : ByteArray) : (partsB c s).length = Lib.countB s ⟨#[c]⟩ + 1 := Lib.splitB_all ⟨#[c]⟩ (show 1 ≤ (⟨#[c]⟩ : ByteArray).size from Nat.le_refl 1) 0 _ s rfl
/-- the entry of a line's five words; false: it is none -/
def ent5 (s a b c d f : ByteArray) : S30 × Bool :=
  (⟨(piB a).1, (piB b).1, c, if d = ⟨#[46]⟩ then [] else partsB 44 d, (puB f).1⟩,
   (((piB a).2 && (piB b).2) && (puB f).2) && (mayE (piB a).1 (piB b).1 c (if d = ⟨#[46]⟩ then [] else partsB 44 d) && decide (lineB ⟨(piB a).1, (piB b).1, c, if d = ⟨#[46]⟩ then [] else partsB 44 d, (puB f).1⟩ = s)))
def ent5x (s a b c : ByteArray) (it : List ByteArray) (f : ByteArray) : S30 × Bool :=
  (⟨(piB a).1, (piB b).1, c, it, (puB f).1⟩, (((piB a).2 && (piB b).2) && (puB f).2) && (mayE (piB a).1 (piB b).1 c it && decide (lineB ⟨(piB a).1, (piB b).1, c, it, (puB f).1⟩ = s)))
def entP (s : ByteArray) : S30 × Bool :=
  match partsB 32 s with
  | [a, b, c, d, f] => ent5 s a b c d f
  | _ => (z30, false)
/-- what entry answers -/
def EntOut (w : World) (x : S30) (b : Bool) (e : Ending) (w' : World) : Prop := ∃ v3, e = .returned (.tuple #[entV x v3, .bool b]) ∧ Kd.string.R 9 w' w.heap.size any v3 x.f3

theorem split_calls (c : UInt8) (s : ByteArray) (w : World) (hs : s.size < 4294967281) (he : Env w) :
    Calls Tryd.prog 50 #[.string s, .string ⟨#[c]⟩] w fun e w' => e = .returned (.slice (some ⟨w.heap.size, 0, none⟩) (partsB c s).length (partsB c s).length) ∧ w' = w.alloc (.cells ((partsB c s).map Value.string).toArray 9) := by
  obtain ⟨_, ⟨m, hm⟩, _, _⟩ := he
  refine (Tryd.strings_Split s ⟨#[c]⟩ m w hs hm (Nat.le_refl 1)).mono ?_
  rintro e w' ⟨rfl, rfl⟩
  rw [partsB_len]
  exact ⟨rfl, rfl⟩
theorem results37 : Tryd.f37.results = #[.cell 2 33, .tmp 3] := by kernel_rfl
theorem parts_row (W : World) (base : Nat) (ws : List ByteArray) (hb : base ≤ W.heap.size) (hl : ws.length ≤ 1000000000000) : Kd.string.R 9 (W.alloc (.cells (ws.map Value.string).toArray 9)) base any (.slice (some ⟨W.heap.size, 0, none⟩) ws.length ws.length) ws := by
  have h := World.ownsRow_lit (base := base) (e := 9) (size := 1) W (ws.map Value.string).toArray ws.length hb (by unfold maxLen; omega) (by simp)
  refine Kd.R_of_own (enc := Value.string) (h1 := fun _ => rfl) ?_ (fun _ _ => trivial)
  simpa [encs] using h

theorem R_any {w : World} {base : Nat} {ok : Nat → Prop} {v : Value} {xs : List ByteArray} (h : Kd.string.R 9 w base ok v xs) : Kd.string.R 9 w base any v xs := Kd.R_mono h (fun _ _ => trivial)
theorem ent_fin {v : Value} {b b' : Bool} (h : b' = b) : Ending.returned (.tuple #[v, .bool b]) = .returned (.tuple #[v, .bool b']) := by rw [h]
theorem str_beq (a b : ByteArray) : (true && decide (a = b)) = (a.toList == b.toList) := by
  rw [Bool.true_and, ByteArray.toList_eq, ByteArray.toList_eq]
  by_cases h : a = b
  · subst h; simp
  · rw [decide_eq_false h]
    have : ¬ a.data = b.data := fun e => h (by cases a; cases b; simpa using e)
    simp [this]
theorem splitB_le (sep : ByteArray) (save : Nat) (h0 : save = 0) : ∀ (k : Nat) (s : ByteArray), ∀ x ∈ Lib.splitB sep save k s, x.size ≤ s.size
  | 0, s, x, hx => by
    obtain rfl := List.mem_singleton.1 hx
    exact Nat.le_refl _
  | k + 1, s, x, hx => by
    unfold Lib.splitB at hx
    split at hx
    · obtain rfl := List.mem_singleton.1 hx
      exact Nat.le_refl _
    · rcases List.mem_cons.1 hx with rfl | hx
      · rw [ByteArray.size_extract]; omega
      · have := splitB_le sep save h0 k _ x hx
        rw [ByteArray.size_extract] at this; omega
theorem partsB_le (c : UInt8) (s : ByteArray) : ∀ x ∈ partsB c s, x.size ≤ s.size := splitB_le _ 0 rfl _ _
def reg37_6.T : Bool × List (List Nat × List Nat) := (true, [([], []), ([], []), ([1], [1]), ([2], [2]), ([0, 3], [0, 3]), ([], []), ([], []), ([6], [6]), ([7], [7]), ([5, 8, 4], [5, 8]), ([], []), ([10], [10]), ([11], [11]), ([4, 9, 12], [4, 9, 12]), ([], []), ([14, 13, 9, 0, 1, 2, 3, 4, 5, 6, 7, 8, 9, 10, 11, 12, 13, 14], [13, 14])])
def reg37_6.B : List Nat := [0, 0, 2, 6, 15, 0, 0, 64, 192, 511, 0, 1024, 3072, 8191, 0, 32767]
theorem reg37_6.tab : rtab .any (opsOf Tryd.f37 6) = reg37_6.T := by kernel_rfl
theorem reg37_6.bits : waitsOk reg37_6.T.2 reg37_6.B = true := by kernel_rfl
def reg37_11.T : Bool × List (List Nat × List Nat) := (true, [([], []), ([], []), ([1], [1]), ([2], [2]), ([3, 2], [2, 3]), ([2, 4], [2, 4]), ([5, 2], [5]), ([6], [6]), ([7, 6, 6], [6, 7]), ([6, 8], [6, 8]), ([9, 8], [9]), ([10], [10]), ([11, 10, 10], [10, 11]), ([10], [10]), ([12, 13, 10], [10, 12, 13]), ([10, 14], [10, 14]), ([0, 12, 0], [0]), ([15, 16, 0, 1, 2, 3, 4, 5, 6, 7, 8, 9, 10, 11, 12, 13, 14, 15, 16], [15])])
def reg37_11.B : List Nat := [0, 0, 2, 6, 14, 30, 62, 126, 254, 510, 1022, 2046, 4094, 2046, 16382, 32766, 8191, 131071]
theorem reg37_11.tab : rtab .any (opsOf Tryd.f37 11) = reg37_11.T := by kernel_rfl
theorem reg37_11.bits : waitsOk reg37_11.T.2 reg37_11.B = true := by kernel_rfl
set_option maxRecDepth 100000 in
set_option maxHeartbeats 4000000 in
theorem entry_calls (s : ByteArray) (w : World) (hs : s.size < 4294967281) (he : Env w) :
    Calls Tryd.prog 37 #[.string s] w fun e w' => EntOut w (entP s).1 (entP s).2 e w' ∧ Below w.heap.size w w' := by
  have HE := Aside0.mk he
  clear he
  go_enter Tryd.func37, Tryd.ntmps37
  go_wp2_with fail
  refine (split_calls 32 s _ hs (HE.out.below (below_alloc (Below.refl _ _) _))).mono ?_
  rintro e w1 ⟨rfl, rfl⟩
  have B2 := Aside0.mk (new_1of2 w (.cells #[.int .i64 0, .int .i64 0, .string ⟨#[]⟩, .slice none 0 0, .int .u64 0] 33) (.cells ((partsB 32 s).map Value.string).toArray 9))
  have Bs := Aside0.mk (new_2of2 w (.cells #[.int .i64 0, .int .i64 0, .string ⟨#[]⟩, .slice none 0 0, .int .u64 0] 33) (.cells ((partsB 32 s).map Value.string).toArray 9))
  have HB1 : Aside0 (Below w.heap.size w ((w.alloc (.cells #[.int .i64 0, .int .i64 0, .string ⟨#[]⟩, .slice none 0 0, .int .u64 0] 33)).alloc (.cells ((partsB 32 s).map Value.string).toArray 9))) := ⟨below_alloc (below_alloc (Below.refl _ _) _) _⟩
  obtain ⟨W1, e1⟩ : ∃ W1, W1 = (w.alloc (.cells #[.int .i64 0, .int .i64 0, .string ⟨#[]⟩, .slice none 0 0, .int .u64 0] 33)).alloc (.cells ((partsB 32 s).map Value.string).toArray 9) := ⟨_, rfl⟩
  rw [← e1] at B2 Bs HB1 ⊢
  have HSz : Aside0 (W1.heap.size = w.heap.size + 2) := ⟨by rw [e1]; simp⟩
  clear e1
  obtain ⟨ws, hws⟩ : ∃ ws, ws = partsB 32 s := ⟨_, rfl⟩
  rw [← hws] at Bs ⊢
  have hw0 := Aside0.mk hws
  clear hws
  by_cases h5 : ws.length = 5
  · obtain ⟨a, b, c, d, f, rfl⟩ : ∃ a b c d f, ws = [a, b, c, d, f] := by
      match ws, h5 with
      | [a, b, c, d, f], _ => exact ⟨a, b, c, d, f, rfl⟩
    clear h5
    have r0 : W1.cell? ⟨w.heap.size + 1, 0, none⟩ = some (.string a) := blk_cell Bs.out 0
    have r1 : W1.cell? ⟨w.heap.size + 1, 1, none⟩ = some (.string b) := blk_cell Bs.out 1
    have r2 : W1.cell? ⟨w.heap.size + 1, 2, none⟩ = some (.string c) := blk_cell Bs.out 2
    have r3 : W1.cell? ⟨w.heap.size + 1, 3, none⟩ = some (.string d) := blk_cell Bs.out 3
    have r4 : W1.cell? ⟨w.heap.size + 1, 4, none⟩ = some (.string f) := blk_cell Bs.out 4
    have HSZ : Aside0 (∀ x ∈ [a, b, c, d, f], x.size ≤ s.size) := ⟨by rw [hw0.out]; exact partsB_le 32 s⟩
    have HE1 := Aside0.mk (HE.out.below HB1.out)
    have HQ0 : Aside0 (Below W1.heap.size W1 (W1.alloc (.cells #[.bool true] 4)).drew) := ⟨below_drew (below_alloc (Below.refl _ _) _)⟩
    have B5_0 : Aside0 ((W1.alloc (.cells #[.bool true] 4)).drew.heap[W1.heap.size]? = some (.cells #[.bool true] 4 (0, 0))) := ⟨heap_alloc_new W1 _⟩
    go_wp2_with fail
    go_cut [7] (fun v7 wc => ∃ b7 : Nat, v7 = .pointer (some ⟨b7, 0, none⟩) ∧ Aside0 (W1.heap.size < b7) ∧ Aside0 (Below W1.heap.size W1 wc) ∧ Aside0 (wc.heap[W1.heap.size]? = some (.cells #[.bool ((true && (piB a).2) && (piB b).2)] 4 (0, 0))) ∧ Aside0 (wc.heap[b7]? = some (.cells #[.int .i64 (piB a).1, .int .i64 (piB b).1, .string c, .slice none 0 0, .int .u64 0] 33 (0, 0))))
    case first =>
      refine start_ (n := 16) (S := fun W => W.cell? ⟨w.heap.size + 1, 0, none⟩ = some (.string a) ∧ W.cell? ⟨w.heap.size + 1, 1, none⟩ = some (.string b) ∧ W.cell? ⟨w.heap.size + 1, 2, none⟩ = some (.string c)) (ds := []) #[false, false, false, false, false, false, false, false, false, false, false, false, false, false, false, false] (by kernel_rfl) rfl rfl ⟨pw_cell_below HQ0.out r0, pw_cell_below HQ0.out r1, pw_cell_below HQ0.out r2⟩ (fun hHeld => ?_)
      refine with_tabW reg37_6.tab reg37_6.bits (fun HT_ HW_ => ?_)
      refine pure_ (i := 0) (N := (some 17)) (v := ?_) (a' := ?_) #[true, false, false, false, false, false, false, false, false, false, false, false, false, false, false, false] rfl rfl (any_of HT_.out (by kernel_rfl)) (fun _ _ _ h => h) (Or.inl ⟨by rfl, ?_⟩) ?_ ?_
      rotate_left
      · intro w'
        go_simp
        with_reducible rfl
      rotate_left
      · simp only [Act.put, List.setIfInBounds_toArray, List.set_cons_zero, List.set_cons_succ, i64_w, i32_w]
        rfl
      refine pure_ (i := 1) (N := (some 18)) (v := ?_) (a' := ?_) #[true, true, false, false, false, false, false, false, false, false, false, false, false, false, false, false] rfl rfl (any_of HT_.out (by kernel_rfl)) (fun _ _ _ h => h) (Or.inl ⟨by rfl, ?_⟩) ?_ ?_
      rotate_left
      · intro w'
        go_simp
        with_reducible rfl
      rotate_left
      · simp only [Act.put, List.setIfInBounds_toArray, List.set_cons_zero, List.set_cons_succ, i64_w, i32_w]
        rfl
      refine pure_ (i := 2) (N := (some 19)) (v := ?_) (a' := ?_) #[true, true, true, false, false, false, false, false, false, false, false, false, false, false, false, false] rfl rfl (any_of HT_.out (by kernel_rfl)) (fun _ _ _ h => h) (Or.inl ⟨by rfl, ?_⟩) ?_ ?_
      rotate_left
      · intro w'
        go_simp
        with_reducible rfl
      rotate_left
      · simp only [Act.put, List.setIfInBounds_toArray, List.set_cons_zero, List.set_cons_succ, i64_w, i32_w]
        rfl
      refine pure_ (i := 5) (N := (some 22)) (v := ?_) (a' := ?_) #[true, true, true, false, false, true, false, false, false, false, false, false, false, false, false, false] rfl rfl (any_of HT_.out (by kernel_rfl)) (fun _ _ _ h => h) (Or.inl ⟨by rfl, ?_⟩) ?_ ?_
      rotate_left
      · intro w'
        go_simp
        with_reducible rfl
      rotate_left
      · simp only [Act.put, List.setIfInBounds_toArray, List.set_cons_zero, List.set_cons_succ, i64_w, i32_w]
        rfl
      refine pure_ (i := 6) (N := (some 23)) (v := ?_) (a' := ?_) #[true, true, true, false, false, true, true, false, false, false, false, false, false, false, false, false] rfl rfl (any_of HT_.out (by kernel_rfl)) (fun _ _ _ h => h) (Or.inl ⟨by rfl, ?_⟩) ?_ ?_
      rotate_left
      · intro w'
        go_simp
        with_reducible rfl
      rotate_left
      · simp only [Act.put, List.setIfInBounds_toArray, List.set_cons_zero, List.set_cons_succ, i64_w, i32_w]
        rfl
      refine pure_ (i := 7) (N := (some 24)) (v := ?_) (a' := ?_) #[true, true, true, false, false, true, true, true, false, false, false, false, false, false, false, false] rfl rfl (any_of HT_.out (by kernel_rfl)) (fun _ _ _ h => h) (Or.inl ⟨by rfl, ?_⟩) ?_ ?_
      rotate_left
      · intro w'
        go_simp
        with_reducible rfl
      rotate_left
      · simp only [Act.put, List.setIfInBounds_toArray, List.set_cons_zero, List.set_cons_succ, i64_w, i32_w]
        rfl
      refine pure_ (i := 10) (N := (some 27)) (v := ?_) (a' := ?_) #[true, true, true, false, false, true, true, true, false, false, true, false, false, false, false, false] rfl rfl (any_of HT_.out (by kernel_rfl)) (fun _ _ _ h => h) (Or.inl ⟨by rfl, ?_⟩) ?_ ?_
      rotate_left
      · intro w'
        go_simp
        with_reducible rfl
      rotate_left
      · simp only [Act.put, List.setIfInBounds_toArray, List.set_cons_zero, List.set_cons_succ, i64_w, i32_w]
        rfl
      refine pure_ (i := 11) (N := (some 28)) (v := ?_) (a' := ?_) #[true, true, true, false, false, true, true, true, false, false, true, true, false, false, false, false] rfl rfl (any_of HT_.out (by kernel_rfl)) (fun _ _ _ h => h) (Or.inl ⟨by rfl, ?_⟩) ?_ ?_
      rotate_left
      · intro w'
        go_simp
        with_reducible rfl
      rotate_left
      · simp only [Act.put, List.setIfInBounds_toArray, List.set_cons_zero, List.set_cons_succ, i64_w, i32_w]
        rfl
      refine take_ (i := 3) (N := (some 20)) (v := ?_) (a' := ?_) #[true, true, true, true, false, true, true, true, false, false, true, true, false, false, false, false] rfl rfl (take_ofW HT_.out HW_.out (by kernel_rfl)) (fun _ _ _ h => h) (Or.inl ⟨by rfl, ?_⟩) hHeld ?_ ?_
      rotate_left
      · rintro w' ⟨s0, s1, s2⟩
        go_simp
        with_reducible rfl
      rotate_left
      · simp only [Act.put, List.setIfInBounds_toArray, List.set_cons_zero, List.set_cons_succ, i64_w, i32_w]
        rfl
      refine take_ (i := 8) (N := (some 25)) (v := ?_) (a' := ?_) #[true, true, true, true, false, true, true, true, true, false, true, true, false, false, false, false] rfl rfl (take_ofW HT_.out HW_.out (by kernel_rfl)) (fun _ _ _ h => h) (Or.inl ⟨by rfl, ?_⟩) hHeld ?_ ?_
      rotate_left
      · rintro w' ⟨s0, s1, s2⟩
        go_simp
        with_reducible rfl
      rotate_left
      · simp only [Act.put, List.setIfInBounds_toArray, List.set_cons_zero, List.set_cons_succ, i64_w, i32_w]
        rfl
      refine take_ (i := 12) (N := (some 29)) (v := ?_) (a' := ?_) #[true, true, true, true, false, true, true, true, true, false, true, true, true, false, false, false] rfl rfl (take_ofW HT_.out HW_.out (by kernel_rfl)) (fun _ _ _ h => h) (Or.inl ⟨by rfl, ?_⟩) hHeld ?_ ?_
      rotate_left
      · rintro w' ⟨s0, s1, s2⟩
        go_simp
        with_reducible rfl
      rotate_left
      · simp only [Act.put, List.setIfInBounds_toArray, List.set_cons_zero, List.set_cons_succ, i64_w, i32_w]
        rfl
      refine two_ (i := 4) (j := 14) (Ni := (some 21)) (Nj := (some 7)) #[true, true, true, true, true, true, true, true, true, false, true, true, true, false, false, false] #[true, true, true, true, false, true, true, true, true, false, true, true, true, false, true, false] rfl rfl rfl rfl (two_of HT_.out (by kernel_rfl)) (by decide) (by decide) (fun K hK => ?_) (fun K hK => ?_)
      · refine call_ 51 #[.string a, .pointer (some ⟨W1.heap.size, 0, none⟩)] (by rfl) rfl (by first | (go_simp; done) | (go_simp; rfl)) ?_
        refine (num_calls a W1.heap.size true _ B5_0.out (by have := HSZ.out a (by simp); omega) (HE1.out.below HQ0.out)).mono ?_
        rintro e V1 ⟨rfl, hF, hB⟩
        refine ⟨_, rfl, ?_⟩
        have HQ1 := Aside0.mk (HQ0.out.trans (hF.toBelow (B := W1.heap.size) HQ0.out.size (fun j hj => by have hj' : j = _ := hj; omega)))
        have B5_1 := Aside0.mk hB
        clear hF hB
        refine hK.out _ _ ⟨pw_cell_below HQ1.out r0, pw_cell_below HQ1.out r1, pw_cell_below HQ1.out r2⟩ (fun hHeld => ?_)
        clear hK K
        refine norm_ (a' := ?_) ?_ ?_
        rotate_left
        · show Act.put _ (some 21) _ = _
          simp only [Act.put, List.setIfInBounds_toArray, List.set_cons_zero, List.set_cons_succ, i64_w, i32_w]
          rfl
        refine two_ (i := 9) (j := 14) (Ni := (some 26)) (Nj := (some 7)) #[true, true, true, true, true, true, true, true, true, true, true, true, true, false, false, false] #[true, true, true, true, true, true, true, true, true, false, true, true, true, false, true, false] rfl rfl rfl rfl (two_of HT_.out (by kernel_rfl)) (by decide) (by decide) (fun K hK => ?_) (fun K hK => ?_)
        · refine call_ 51 #[.string b, .pointer (some ⟨W1.heap.size, 0, none⟩)] (by rfl) rfl (by first | (go_simp; done) | (go_simp; rfl)) ?_
          refine (num_calls b W1.heap.size (true && (piB a).2) _ B5_1.out (by have := HSZ.out b (by simp); omega) (HE1.out.below HQ1.out)).mono ?_
          rintro e V2 ⟨rfl, hF, hB⟩
          refine ⟨_, rfl, ?_⟩
          have HQ2 := Aside0.mk (HQ1.out.trans (hF.toBelow (B := W1.heap.size) HQ1.out.size (fun j hj => by have hj' : j = _ := hj; omega)))
          have B5_2 := Aside0.mk hB
          clear hF hB
          refine hK.out _ _ ⟨pw_cell_below HQ2.out r0, pw_cell_below HQ2.out r1, pw_cell_below HQ2.out r2⟩ (fun hHeld => ?_)
          clear hK K
          refine norm_ (a' := ?_) ?_ ?_
          rotate_left
          · show Act.put _ (some 26) _ = _
            simp only [Act.put, List.setIfInBounds_toArray, List.set_cons_zero, List.set_cons_succ, i64_w, i32_w]
            rfl
          refine pure_ (i := 13) (N := (some 30)) (v := ?_) (a' := ?_) #[true, true, true, true, true, true, true, true, true, true, true, true, true, true, false, false] rfl rfl (any_of HT_.out (by kernel_rfl)) (fun _ _ _ h => h) (Or.inl ⟨by rfl, ?_⟩) ?_ ?_
          rotate_left
          · intro w'
            go_simp
            with_reducible rfl
          rotate_left
          · simp only [Act.put, List.setIfInBounds_toArray, List.set_cons_zero, List.set_cons_succ, i64_w, i32_w]
            rfl
          refine one_ (i := 14) (N := (some 7)) #[true, true, true, true, true, true, true, true, true, true, true, true, true, true, true, false] rfl rfl (one_of HT_.out (by kernel_rfl)) (by decide) (fun K hK => ?_)
          refine event_step (v := .pointer (some ⟨V2.heap.size, 0, none⟩)) (w1 := (V2.alloc (.cells #[.int .i64 0, .int .i64 0, .string ⟨#[]⟩, .slice none 0 0, .int .u64 0] 33))) (by rfl) (by first | (go_simp; done) | (go_simp; rfl)) ?_
          have HQ3 := Aside0.mk (below_alloc HQ2.out (.cells #[.int .i64 0, .int .i64 0, .string ⟨#[]⟩, .slice none 0 0, .int .u64 0] 33))
          have B5_3 := Aside0.mk (blk_alloc B5_2.out (.cells #[.int .i64 0, .int .i64 0, .string ⟨#[]⟩, .slice none 0 0, .int .u64 0] 33))
          have B7_3 : Aside0 ((V2.alloc (.cells #[.int .i64 0, .int .i64 0, .string ⟨#[]⟩, .slice none 0 0, .int .u64 0] 33)).heap[V2.heap.size]? = some (.cells #[.int .i64 0, .int .i64 0, .string ⟨#[]⟩, .slice none 0 0, .int .u64 0] 33)) := ⟨new_at V2 _ (by first | rfl | simp)⟩
          have HN : Aside0 (W1.heap.size < V2.heap.size) := ⟨by have h := blk_lt B5_2.out; first | omega | exact h | (simp at h; omega)⟩
          refine hK.out _ _ ⟨pw_cell_below HQ3.out r0, pw_cell_below HQ3.out r1, pw_cell_below HQ3.out r2⟩ (fun hHeld => ?_)
          clear hK K
          refine norm_ (a' := ?_) ?_ ?_
          rotate_left
          · show Act.put _ (some 7) _ = _
            simp only [Act.put, List.setIfInBounds_toArray, List.set_cons_zero, List.set_cons_succ, i64_w, i32_w]
            rfl
          refine one_ (i := 15) (N := none) #[true, true, true, true, true, true, true, true, true, true, true, true, true, true, true, true] rfl rfl (one_of HT_.out (by kernel_rfl)) (by decide) (fun K hK => ?_)
          refine skip_ (w1 := (V2.alloc (.cells #[.int .i64 (piB a).1, .int .i64 (piB b).1, .string c, .slice none 0 0, .int .u64 0] 33))) (by rfl) rfl (by first | (go_simp; done) | (go_simp; rfl)) ?_
          have HQz := Aside0.mk (below_alloc HQ2.out (.cells #[.int .i64 (piB a).1, .int .i64 (piB b).1, .string c, .slice none 0 0, .int .u64 0] 33))
          have B5z := Aside0.mk (blk_alloc B5_2.out (.cells #[.int .i64 (piB a).1, .int .i64 (piB b).1, .string c, .slice none 0 0, .int .u64 0] 33))
          have B7z := Aside0.mk (heap_alloc_new V2 (.cells #[.int .i64 (piB a).1, .int .i64 (piB b).1, .string c, .slice none 0 0, .int .u64 0] 33))
          refine hK.out _ _ ⟨pw_cell_below HQz.out r0, pw_cell_below HQz.out r1, pw_cell_below HQz.out r2⟩ (fun hHeld => ?_)
          clear hK K
          refine done_ (done_of HT_.out (by kernel_rfl)) ?_
          go_wp2_with fail
          go_meet
          case rel => exact ⟨V2.heap.size, rfl, HN, HQz, B5z, B7z⟩
        · refine event_step (v := .pointer (some ⟨V1.heap.size, 0, none⟩)) (w1 := (V1.alloc (.cells #[.int .i64 0, .int .i64 0, .string ⟨#[]⟩, .slice none 0 0, .int .u64 0] 33))) (by rfl) (by first | (go_simp; done) | (go_simp; rfl)) ?_
          have HQ2 := Aside0.mk (below_alloc HQ1.out (.cells #[.int .i64 0, .int .i64 0, .string ⟨#[]⟩, .slice none 0 0, .int .u64 0] 33))
          have B5_2 := Aside0.mk (blk_alloc B5_1.out (.cells #[.int .i64 0, .int .i64 0, .string ⟨#[]⟩, .slice none 0 0, .int .u64 0] 33))
          have B7_2 : Aside0 ((V1.alloc (.cells #[.int .i64 0, .int .i64 0, .string ⟨#[]⟩, .slice none 0 0, .int .u64 0] 33)).heap[V1.heap.size]? = some (.cells #[.int .i64 0, .int .i64 0, .string ⟨#[]⟩, .slice none 0 0, .int .u64 0] 33)) := ⟨new_at V1 _ (by first | rfl | simp)⟩
          have HN : Aside0 (W1.heap.size < V1.heap.size) := ⟨by have h := blk_lt B5_1.out; first | omega | exact h | (simp at h; omega)⟩
          refine hK.out _ _ ⟨pw_cell_below HQ2.out r0, pw_cell_below HQ2.out r1, pw_cell_below HQ2.out r2⟩ (fun hHeld => ?_)
          clear hK K
          refine norm_ (a' := ?_) ?_ ?_
          rotate_left
          · show Act.put _ (some 7) _ = _
            simp only [Act.put, List.setIfInBounds_toArray, List.set_cons_zero, List.set_cons_succ, i64_w, i32_w]
            rfl
          refine one_ (i := 9) (N := (some 26)) #[true, true, true, true, true, true, true, true, true, true, true, true, true, false, true, false] rfl rfl (one_of HT_.out (by kernel_rfl)) (by decide) (fun K hK => ?_)
          refine call_ 51 #[.string b, .pointer (some ⟨W1.heap.size, 0, none⟩)] (by rfl) rfl (by first | (go_simp; done) | (go_simp; rfl)) ?_
          refine (num_calls b W1.heap.size (true && (piB a).2) _ B5_2.out (by have := HSZ.out b (by simp); omega) (HE1.out.below HQ2.out)).mono ?_
          rintro e V3 ⟨rfl, hF, hB⟩
          refine ⟨_, rfl, ?_⟩
          have HQ3 := Aside0.mk (HQ2.out.trans (hF.toBelow (B := W1.heap.size) HQ2.out.size (fun j hj => by have hj' : j = _ := hj; omega)))
          have B5_3 := Aside0.mk hB
          have B7_3 := Aside0.mk (hF.blk B7_2.out (fun hj => by have hj' : V1.heap.size = _ := hj; have := HN.out; omega))
          clear hF hB
          refine hK.out _ _ ⟨pw_cell_below HQ3.out r0, pw_cell_below HQ3.out r1, pw_cell_below HQ3.out r2⟩ (fun hHeld => ?_)
          clear hK K
          refine norm_ (a' := ?_) ?_ ?_
          rotate_left
          · show Act.put _ (some 26) _ = _
            simp only [Act.put, List.setIfInBounds_toArray, List.set_cons_zero, List.set_cons_succ, i64_w, i32_w]
            rfl
          refine pure_ (i := 13) (N := (some 30)) (v := ?_) (a' := ?_) #[true, true, true, true, true, true, true, true, true, true, true, true, true, true, true, false] rfl rfl (any_of HT_.out (by kernel_rfl)) (fun _ _ _ h => h) (Or.inl ⟨by rfl, ?_⟩) ?_ ?_
          rotate_left
          · intro w'
            go_simp
            with_reducible rfl
          rotate_left
          · simp only [Act.put, List.setIfInBounds_toArray, List.set_cons_zero, List.set_cons_succ, i64_w, i32_w]
            rfl
          refine one_ (i := 15) (N := none) #[true, true, true, true, true, true, true, true, true, true, true, true, true, true, true, true] rfl rfl (one_of HT_.out (by kernel_rfl)) (by decide) (fun K hK => ?_)
          obtain ⟨q0, q1, q2, q3, q4, qs⟩ := five B7_3.out
          have fq := blk_frozen B7_3.out
          refine skip_ (w1 := set5 V3 V1.heap.size (.int .i64 (piB a).1) (.int .i64 (piB b).1) (.string c) (.slice none 0 0) (.int .u64 0)) (by rfl) rfl (by first | (go_simp; done) | (go_simp; rfl)) ?_
          clear q0 q1 q2 q3 q4 qs fq
          have Fz := Aside0.mk (set5_fr V3 V1.heap.size (.int .i64 (piB a).1) (.int .i64 (piB b).1) (.string c) (.slice none 0 0) (.int .u64 0))
          have B7z := Aside0.mk (set5_blk B7_3.out (.int .i64 (piB a).1) (.int .i64 (piB b).1) (.string c) (.slice none 0 0) (.int .u64 0))
          have HQz := Aside0.mk (HQ3.out.trans (Fz.out.toBelow (B := W1.heap.size) HQ3.out.size (fun j hj => by have hj' : j = _ := hj; have := HN.out; omega)))
          have B5z := Aside0.mk (Fz.out.blk B5_3.out (fun hj => by have hj' : W1.heap.size = _ := hj; have := HN.out; omega))
          refine hK.out _ _ ⟨pw_cell_below HQz.out r0, pw_cell_below HQz.out r1, pw_cell_below HQz.out r2⟩ (fun hHeld => ?_)
          clear hK K
          refine done_ (done_of HT_.out (by kernel_rfl)) ?_
          go_wp2_with fail
          go_meet
          case rel => exact ⟨V1.heap.size, rfl, HN, HQz, B5z, B7z⟩
      · refine event_step (v := .pointer (some ⟨(W1.heap.size + 1), 0, none⟩)) (w1 := ((W1.alloc (.cells #[.bool true] 4)).drew.alloc (.cells #[.int .i64 0, .int .i64 0, .string ⟨#[]⟩, .slice none 0 0, .int .u64 0] 33))) (by rfl) (by first | (go_simp; done) | (go_simp; rfl)) ?_
        have HQ1 := Aside0.mk (below_alloc HQ0.out (.cells #[.int .i64 0, .int .i64 0, .string ⟨#[]⟩, .slice none 0 0, .int .u64 0] 33))
        have B5_1 := Aside0.mk (blk_alloc B5_0.out (.cells #[.int .i64 0, .int .i64 0, .string ⟨#[]⟩, .slice none 0 0, .int .u64 0] 33))
        have B7_1 : Aside0 (((W1.alloc (.cells #[.bool true] 4)).drew.alloc (.cells #[.int .i64 0, .int .i64 0, .string ⟨#[]⟩, .slice none 0 0, .int .u64 0] 33)).heap[(W1.heap.size + 1)]? = some (.cells #[.int .i64 0, .int .i64 0, .string ⟨#[]⟩, .slice none 0 0, .int .u64 0] 33)) := ⟨new_at (W1.alloc (.cells #[.bool true] 4)).drew _ (by first | rfl | simp)⟩
        have HN : Aside0 (W1.heap.size < (W1.heap.size + 1)) := ⟨by have h := blk_lt B5_0.out; first | omega | exact h | (simp at h; omega)⟩
        refine hK.out _ _ ⟨pw_cell_below HQ1.out r0, pw_cell_below HQ1.out r1, pw_cell_below HQ1.out r2⟩ (fun hHeld => ?_)
        clear hK K
        refine norm_ (a' := ?_) ?_ ?_
        rotate_left
        · show Act.put _ (some 7) _ = _
          simp only [Act.put, List.setIfInBounds_toArray, List.set_cons_zero, List.set_cons_succ, i64_w, i32_w]
          rfl
        refine one_ (i := 4) (N := (some 21)) #[true, true, true, true, true, true, true, true, true, false, true, true, true, false, true, false] rfl rfl (one_of HT_.out (by kernel_rfl)) (by decide) (fun K hK => ?_)
        refine call_ 51 #[.string a, .pointer (some ⟨W1.heap.size, 0, none⟩)] (by rfl) rfl (by first | (go_simp; done) | (go_simp; rfl)) ?_
        refine (num_calls a W1.heap.size true _ B5_1.out (by have := HSZ.out a (by simp); omega) (HE1.out.below HQ1.out)).mono ?_
        rintro e V2 ⟨rfl, hF, hB⟩
        refine ⟨_, rfl, ?_⟩
        have HQ2 := Aside0.mk (HQ1.out.trans (hF.toBelow (B := W1.heap.size) HQ1.out.size (fun j hj => by have hj' : j = _ := hj; omega)))
        have B5_2 := Aside0.mk hB
        have B7_2 := Aside0.mk (hF.blk B7_1.out (fun hj => by have hj' : (W1.heap.size + 1) = _ := hj; have := HN.out; omega))
        clear hF hB
        refine hK.out _ _ ⟨pw_cell_below HQ2.out r0, pw_cell_below HQ2.out r1, pw_cell_below HQ2.out r2⟩ (fun hHeld => ?_)
        clear hK K
        refine norm_ (a' := ?_) ?_ ?_
        rotate_left
        · show Act.put _ (some 21) _ = _
          simp only [Act.put, List.setIfInBounds_toArray, List.set_cons_zero, List.set_cons_succ, i64_w, i32_w]
          rfl
        refine one_ (i := 9) (N := (some 26)) #[true, true, true, true, true, true, true, true, true, true, true, true, true, false, true, false] rfl rfl (one_of HT_.out (by kernel_rfl)) (by decide) (fun K hK => ?_)
        refine call_ 51 #[.string b, .pointer (some ⟨W1.heap.size, 0, none⟩)] (by rfl) rfl (by first | (go_simp; done) | (go_simp; rfl)) ?_
        refine (num_calls b W1.heap.size (true && (piB a).2) _ B5_2.out (by have := HSZ.out b (by simp); omega) (HE1.out.below HQ2.out)).mono ?_
        rintro e V3 ⟨rfl, hF, hB⟩
        refine ⟨_, rfl, ?_⟩
        have HQ3 := Aside0.mk (HQ2.out.trans (hF.toBelow (B := W1.heap.size) HQ2.out.size (fun j hj => by have hj' : j = _ := hj; omega)))
        have B5_3 := Aside0.mk hB
        have B7_3 := Aside0.mk (hF.blk B7_2.out (fun hj => by have hj' : (W1.heap.size + 1) = _ := hj; have := HN.out; omega))
        clear hF hB
        refine hK.out _ _ ⟨pw_cell_below HQ3.out r0, pw_cell_below HQ3.out r1, pw_cell_below HQ3.out r2⟩ (fun hHeld => ?_)
        clear hK K
        refine norm_ (a' := ?_) ?_ ?_
        rotate_left
        · show Act.put _ (some 26) _ = _
          simp only [Act.put, List.setIfInBounds_toArray, List.set_cons_zero, List.set_cons_succ, i64_w, i32_w]
          rfl
        refine pure_ (i := 13) (N := (some 30)) (v := ?_) (a' := ?_) #[true, true, true, true, true, true, true, true, true, true, true, true, true, true, true, false] rfl rfl (any_of HT_.out (by kernel_rfl)) (fun _ _ _ h => h) (Or.inl ⟨by rfl, ?_⟩) ?_ ?_
        rotate_left
        · intro w'
          go_simp
          with_reducible rfl
        rotate_left
        · simp only [Act.put, List.setIfInBounds_toArray, List.set_cons_zero, List.set_cons_succ, i64_w, i32_w]
          rfl
        refine one_ (i := 15) (N := none) #[true, true, true, true, true, true, true, true, true, true, true, true, true, true, true, true] rfl rfl (one_of HT_.out (by kernel_rfl)) (by decide) (fun K hK => ?_)
        obtain ⟨q0, q1, q2, q3, q4, qs⟩ := five B7_3.out
        have fq := blk_frozen B7_3.out
        refine skip_ (w1 := set5 V3 (W1.heap.size + 1) (.int .i64 (piB a).1) (.int .i64 (piB b).1) (.string c) (.slice none 0 0) (.int .u64 0)) (by rfl) rfl (by first | (go_simp; done) | (go_simp; rfl)) ?_
        clear q0 q1 q2 q3 q4 qs fq
        have Fz := Aside0.mk (set5_fr V3 (W1.heap.size + 1) (.int .i64 (piB a).1) (.int .i64 (piB b).1) (.string c) (.slice none 0 0) (.int .u64 0))
        have B7z := Aside0.mk (set5_blk B7_3.out (.int .i64 (piB a).1) (.int .i64 (piB b).1) (.string c) (.slice none 0 0) (.int .u64 0))
        have HQz := Aside0.mk (HQ3.out.trans (Fz.out.toBelow (B := W1.heap.size) HQ3.out.size (fun j hj => by have hj' : j = _ := hj; have := HN.out; omega)))
        have B5z := Aside0.mk (Fz.out.blk B5_3.out (fun hj => by have hj' : W1.heap.size = _ := hj; have := HN.out; omega))
        refine hK.out _ _ ⟨pw_cell_below HQz.out r0, pw_cell_below HQz.out r1, pw_cell_below HQz.out r2⟩ (fun hHeld => ?_)
        clear hK K
        refine done_ (done_of HT_.out (by kernel_rfl)) ?_
        go_wp2_with fail
        go_meet
        case rel => exact ⟨(W1.heap.size + 1), rfl, HN, HQz, B5z, B7z⟩
    case rest =>
      obtain ⟨b7, rfl, HN, HQz, B5z, B7z⟩ := hcut
      have r3c := pw_cell_below HQz.out r3
      have r4c := pw_cell_below HQz.out r4
      obtain ⟨q0, q1, q2, q3, q4, qs⟩ := five B7z.out
      have fq := blk_frozen B7z.out
      clear B5_0 HQ0 r0 r1 r2 r3 r4
      by_cases hd : d = ⟨#[46]⟩
      · subst hd
        have HP : Aside0 (entP s = ent5x s a b c [] f) := ⟨by unfold entP; rw [← hw0.out]; show ent5 s a b c ⟨#[46]⟩ f = _; unfold ent5; rw [if_pos rfl]; rfl⟩
        have HQp := HQz
        have B5p := B5z
        have B7p := B7z
        have HRp : Aside0 (Kd.string.R 9 wc w.heap.size (fun k => k ≠ w.heap.size ∧ k ≠ b7) (.slice none 0 0) ([] : List ByteArray)) := ⟨Kd.R_nil _ _ _ _ _⟩
        go_wp2_with fail
        refine (parseU_calls f (by have := HSZ.out f (by simp); omega) _ (HE1.out.below HQp.out)).mono ?_
        rintro e V ⟨⟨ev, rfl, hev⟩, hb⟩
        have HQv := Aside0.mk (HQp.out.trans (hb.mono HQp.out.size))
        have B5v := Aside0.mk (blk_below B5p.out hb)
        have B7v := Aside0.mk (blk_below B7p.out hb)
        have HRv := Aside0.mk (Kd.R_below HRp.out hb)
        clear hb
        try clear q0 q1 q2 q3 q4 qs fq
        obtain ⟨q0, q1, q2, q3, q4, qs⟩ := five B7v.out
        have fq := blk_frozen B7v.out
        cases hu : (puB f).2 with
        | false =>
          have HU := Aside0.mk hu
          rw [hu] at hev
          clear hu
          obtain ⟨N, rfl⟩ : ∃ N : Nat, ev = .iface 93 (.pointer (some ⟨N, 0, none⟩)) := hev
          go_wp2_with fail
          clear q0 q1 q2 q3 q4 qs fq
          have F7 := Aside0.mk ((Fr.refl (one b7) V).setCell (p := ⟨b7, 4, none⟩) (.inl rfl) (.int .u64 (puB f).1))
          have B7y := Aside0.mk (blk_set B7v.out 4 (.int .u64 (puB f).1))
          have HQy := Aside0.mk (HQv.out.trans (F7.out.toBelow (B := W1.heap.size) HQv.out.size (fun j hj => by have hj' : j = b7 := hj; have := HN.out; omega)))
          have B5y := Aside0.mk (F7.out.blk B5v.out (fun hj => by have hj' : W1.heap.size = b7 := hj; have := HN.out; omega))
          have B2y := Aside0.mk (blk_below B2.out HQy.out)
          have HRy : Aside0 (Kd.string.R 9 (V.setCell ⟨b7, 4, none⟩ (.int .u64 (puB f).1)) w.heap.size (fun k => k ≠ w.heap.size) (.slice none 0 0) ([] : List ByteArray)) := ⟨R_fr HRv.out F7.out (fun j _ _ h3 hj => h3.2 hj) |> fun h => Kd.R_mono h (fun _ hk => hk.1)⟩
          obtain ⟨Wy, ey⟩ : ∃ Wy, Wy = V.setCell ⟨b7, 4, none⟩ (.int .u64 (puB f).1) := ⟨_, rfl⟩
          rw [← ey] at B7y HQy B5y B2y HRy ⊢
          clear ey F7
          have HCy : Aside0 (Kd.C Kd.string Wy none ([] : List ByteArray).length ([] : List ByteArray)) := ⟨by obtain ⟨A', c', e', _, hC⟩ := Kd.R_reads HRy.out; cases e'; exact hC⟩
          have HLy : Aside0 (([] : List ByteArray).length ≤ 0) := ⟨by obtain ⟨A', c', e', hl', _⟩ := Kd.R_reads HRy.out; cases e'; exact hl'⟩
          obtain ⟨q0, q1, q2, q3, q4, qs⟩ := five B7y.out
          have o0 := one_get B5y.out
          have HQ0 := Aside0.mk (below_drew (Below.refl Wy.heap.size Wy))
          cases ho : ((true && (piB a).2) && (piB b).2) with
          | false =>
            rw [ho] at o0
            have HO : Aside0 (((piB a).2 && (piB b).2) = false) := ⟨by simpa using ho⟩
            clear ho
            refine start_ (n := 18) (S := fun W => W.cell? ⟨b7, 0, none⟩ = some (.int .i64 (piB a).1) ∧ W.cell? ⟨b7, 1, none⟩ = some (.int .i64 (piB b).1) ∧ W.cell? ⟨b7, 2, none⟩ = some (.string c) ∧ W.cell? ⟨b7, 3, none⟩ = some (.slice none 0 0) ∧ W.cell? ⟨b7, 4, none⟩ = some (.int .u64 (puB f).1) ∧ W.cell? ⟨W1.heap.size, 0, none⟩ = some (.bool false)) (ds := []) #[false, false, false, false, false, false, false, false, false, false, false, false, false, false, false, false, false, false] (by kernel_rfl) rfl rfl ⟨pw_cell_below HQ0.out q0, pw_cell_below HQ0.out q1, pw_cell_below HQ0.out q2, pw_cell_below HQ0.out q3, pw_cell_below HQ0.out q4, pw_cell_below HQ0.out o0⟩ (fun hHeld => ?_)
            refine with_tabW reg37_11.tab reg37_11.bits (fun HT_ HW_ => ?_)
            refine take_ (i := 0) (N := (some 49)) (v := ?_) (a' := ?_) #[true, false, false, false, false, false, false, false, false, false, false, false, false, false, false, false, false, false] rfl rfl (take_ofW HT_.out HW_.out (by kernel_rfl)) (fun _ _ _ h => h) (Or.inl ⟨by rfl, ?_⟩) hHeld ?_ ?_
            rotate_left
            · rintro w' ⟨s0, s1, s2, s3, s4, s5⟩
              go_simp
              with_reducible rfl
            rotate_left
            · simp only [Act.put, List.setIfInBounds_toArray, List.set_cons_zero, List.set_cons_succ, i64_w, i32_w]
              rfl
            refine take_ (i := 1) (N := (some 50)) (v := ?_) (a' := ?_) #[true, true, false, false, false, false, false, false, false, false, false, false, false, false, false, false, false, false] rfl rfl (take_ofW HT_.out HW_.out (by kernel_rfl)) (fun _ _ _ h => h) (Or.inl ⟨by rfl, ?_⟩) hHeld ?_ ?_
            rotate_left
            · rintro w' ⟨s0, s1, s2, s3, s4, s5⟩
              go_simp
              with_reducible rfl
            rotate_left
            · simp only [Act.put, List.setIfInBounds_toArray, List.set_cons_zero, List.set_cons_succ, i64_w, i32_w]
              rfl
            refine pure_ (i := 2) (N := (some 51)) (v := ?_) (a' := ?_) #[true, true, true, false, false, false, false, false, false, false, false, false, false, false, false, false, false, false] rfl rfl (any_of HT_.out (by kernel_rfl)) (fun _ _ _ h => h) (Or.inl ⟨by rfl, ?_⟩) ?_ ?_
            rotate_left
            · intro w'
              go_simp
              with_reducible rfl
            rotate_left
            · simp only [Act.put, List.setIfInBounds_toArray, List.set_cons_zero, List.set_cons_succ, i64_w, i32_w]
              rfl
            refine pure_ (i := 3) (N := (some 52)) (v := undef) (a' := ?_) #[true, true, true, true, false, false, false, false, false, false, false, false, false, false, false, false, false, false] rfl rfl (any_of HT_.out (by kernel_rfl)) (fun _ _ _ h => h) (Or.inr ⟨by rfl, rfl⟩) ?_ ?_
            rotate_left
            · simp only [Act.put, List.setIfInBounds_toArray, List.set_cons_zero, List.set_cons_succ, i64_w, i32_w]
              rfl
            refine pure_ (i := 4) (N := (some 53)) (v := undef) (a' := ?_) #[true, true, true, true, true, false, false, false, false, false, false, false, false, false, false, false, false, false] rfl rfl (any_of HT_.out (by kernel_rfl)) (fun _ _ _ h => h) (Or.inr ⟨by rfl, rfl⟩) ?_ ?_
            rotate_left
            · simp only [Act.put, List.setIfInBounds_toArray, List.set_cons_zero, List.set_cons_succ, i64_w, i32_w]
              rfl
            refine pure_ (i := 5) (N := (some 54)) (v := ?_) (a' := ?_) #[true, true, true, true, true, true, false, false, false, false, false, false, false, false, false, false, false, false] rfl rfl (any_of HT_.out (by kernel_rfl)) (fun _ _ _ h => h) (Or.inl ⟨by rfl, ?_⟩) ?_ ?_
            rotate_left
            · intro w'
              go_simp
              with_reducible rfl
            rotate_left
            · simp only [Act.put, List.setIfInBounds_toArray, List.set_cons_zero, List.set_cons_succ, i64_w, i32_w]
              rfl
            refine pure_ (i := 6) (N := (some 55)) (v := ?_) (a' := ?_) #[true, true, true, true, true, true, true, false, false, false, false, false, false, false, false, false, false, false] rfl rfl (any_of HT_.out (by kernel_rfl)) (fun _ _ _ h => h) (Or.inl ⟨by rfl, ?_⟩) ?_ ?_
            rotate_left
            · intro w'
              go_simp
              with_reducible rfl
            rotate_left
            · simp only [Act.put, List.setIfInBounds_toArray, List.set_cons_zero, List.set_cons_succ, i64_w, i32_w]
              rfl
            refine pure_ (i := 7) (N := (some 56)) (v := undef) (a' := ?_) #[true, true, true, true, true, true, true, true, false, false, false, false, false, false, false, false, false, false] rfl rfl (any_of HT_.out (by kernel_rfl)) (fun _ _ _ h => h) (Or.inr ⟨by rfl, rfl⟩) ?_ ?_
            rotate_left
            · simp only [Act.put, List.setIfInBounds_toArray, List.set_cons_zero, List.set_cons_succ, i64_w, i32_w]
              rfl
            refine pure_ (i := 8) (N := (some 57)) (v := undef) (a' := ?_) #[true, true, true, true, true, true, true, true, true, false, false, false, false, false, false, false, false, false] rfl rfl (any_of HT_.out (by kernel_rfl)) (fun _ _ _ h => h) (Or.inr ⟨by rfl, rfl⟩) ?_ ?_
            rotate_left
            · simp only [Act.put, List.setIfInBounds_toArray, List.set_cons_zero, List.set_cons_succ, i64_w, i32_w]
              rfl
            refine pure_ (i := 9) (N := (some 58)) (v := ?_) (a' := ?_) #[true, true, true, true, true, true, true, true, true, true, false, false, false, false, false, false, false, false] rfl rfl (any_of HT_.out (by kernel_rfl)) (fun _ _ _ h => h) (Or.inl ⟨by rfl, ?_⟩) ?_ ?_
            rotate_left
            · intro w'
              go_simp
              with_reducible rfl
            rotate_left
            · simp only [Act.put, List.setIfInBounds_toArray, List.set_cons_zero, List.set_cons_succ, i64_w, i32_w]
              rfl
            refine pure_ (i := 10) (N := (some 59)) (v := ?_) (a' := ?_) #[true, true, true, true, true, true, true, true, true, true, true, false, false, false, false, false, false, false] rfl rfl (any_of HT_.out (by kernel_rfl)) (fun _ _ _ h => h) (Or.inl ⟨by rfl, ?_⟩) ?_ ?_
            rotate_left
            · intro w'
              go_simp
              with_reducible rfl
            rotate_left
            · simp only [Act.put, List.setIfInBounds_toArray, List.set_cons_zero, List.set_cons_succ, i64_w, i32_w]
              rfl
            refine pure_ (i := 11) (N := (some 60)) (v := undef) (a' := ?_) #[true, true, true, true, true, true, true, true, true, true, true, true, false, false, false, false, false, false] rfl rfl (any_of HT_.out (by kernel_rfl)) (fun _ _ _ h => h) (Or.inr ⟨by rfl, rfl⟩) ?_ ?_
            rotate_left
            · simp only [Act.put, List.setIfInBounds_toArray, List.set_cons_zero, List.set_cons_succ, i64_w, i32_w]
              rfl
            refine pure_ (i := 12) (N := (some 61)) (v := undef) (a' := ?_) #[true, true, true, true, true, true, true, true, true, true, true, true, true, false, false, false, false, false] rfl rfl (any_of HT_.out (by kernel_rfl)) (fun _ _ _ h => h) (Or.inr ⟨by rfl, rfl⟩) ?_ ?_
            rotate_left
            · simp only [Act.put, List.setIfInBounds_toArray, List.set_cons_zero, List.set_cons_succ, i64_w, i32_w]
              rfl
            refine pure_ (i := 13) (N := (some 62)) (v := undef) (a' := ?_) #[true, true, true, true, true, true, true, true, true, true, true, true, true, true, false, false, false, false] rfl rfl (any_of HT_.out (by kernel_rfl)) (fun _ _ _ h => h) (Or.inr ⟨by rfl, rfl⟩) ?_ ?_
            rotate_left
            · simp only [Act.put, List.setIfInBounds_toArray, List.set_cons_zero, List.set_cons_succ, i64_w, i32_w]
              rfl
            refine pure_ (i := 14) (N := (some 63)) (v := undef) (a' := ?_) #[true, true, true, true, true, true, true, true, true, true, true, true, true, true, true, false, false, false] rfl rfl (any_of HT_.out (by kernel_rfl)) (fun _ _ _ h => h) (Or.inr ⟨by rfl, rfl⟩) ?_ ?_
            rotate_left
            · simp only [Act.put, List.setIfInBounds_toArray, List.set_cons_zero, List.set_cons_succ, i64_w, i32_w]
              rfl
            refine pure_ (i := 15) (N := (some 64)) (v := ?_) (a' := ?_) #[true, true, true, true, true, true, true, true, true, true, true, true, true, true, true, true, false, false] rfl rfl (any_of HT_.out (by kernel_rfl)) (fun _ _ _ h => h) (Or.inl ⟨by rfl, ?_⟩) ?_ ?_
            rotate_left
            · intro w'
              go_simp
              with_reducible rfl
            rotate_left
            · simp only [Act.put, List.setIfInBounds_toArray, List.set_cons_zero, List.set_cons_succ, i64_w, i32_w]
              rfl
            refine one_ (i := 16) (N := none) #[true, true, true, true, true, true, true, true, true, true, true, true, true, true, true, true, true, false] rfl rfl (one_of HT_.out (by kernel_rfl)) (by decide) (fun K hK => ?_)
            have B2w := Aside0.mk (blk_below B2y.out HQ0.out)
            obtain ⟨z0, z1, z2, z3, z4, zs⟩ := five B2y.out
            have fz := blk_frozen B2y.out
            refine skip_ (w1 := set5 Wy.drew w.heap.size (.int .i64 (piB a).1) (.int .i64 (piB b).1) (.string c) (.slice none 0 0) (.int .u64 (puB f).1)) (by rfl) rfl (by first | (go_simp; done) | (go_simp; rfl)) ?_
            clear z0 z1 z2 z3 z4 zs fz
            have Fz := Aside0.mk (set5_fr Wy.drew w.heap.size (.int .i64 (piB a).1) (.int .i64 (piB b).1) (.string c) (.slice none 0 0) (.int .u64 (puB f).1))
            have Bz := Aside0.mk (set5_blk B2w.out (.int .i64 (piB a).1) (.int .i64 (piB b).1) (.string c) (.slice none 0 0) (.int .u64 (puB f).1))
            refine hK.out _ _ ⟨Fz.out.cell (pw_cell_below HQ0.out q0) (fun hj => by have hj' : b7 = w.heap.size := hj; have h1 := HN.out; have h2 := HSz.out; omega), Fz.out.cell (pw_cell_below HQ0.out q1) (fun hj => by have hj' : b7 = w.heap.size := hj; have h1 := HN.out; have h2 := HSz.out; omega), Fz.out.cell (pw_cell_below HQ0.out q2) (fun hj => by have hj' : b7 = w.heap.size := hj; have h1 := HN.out; have h2 := HSz.out; omega), Fz.out.cell (pw_cell_below HQ0.out q3) (fun hj => by have hj' : b7 = w.heap.size := hj; have h1 := HN.out; have h2 := HSz.out; omega), Fz.out.cell (pw_cell_below HQ0.out q4) (fun hj => by have hj' : b7 = w.heap.size := hj; have h1 := HN.out; have h2 := HSz.out; omega), Fz.out.cell (pw_cell_below HQ0.out o0) (fun hj => by have hj' : W1.heap.size = w.heap.size := hj; have h2 := HSz.out; omega)⟩ (fun hHeld => ?_)
            clear hK K
            refine pure_ (i := 17) (N := (some 3)) (v := ?_) (a' := ?_) #[true, true, true, true, true, true, true, true, true, true, true, true, true, true, true, true, true, true] rfl rfl (any_of HT_.out (by kernel_rfl)) (fun _ _ _ h => h) (Or.inl ⟨by rfl, ?_⟩) ?_ ?_
            rotate_left
            · intro w'
              go_simp
              with_reducible rfl
            rotate_left
            · simp only [Act.put, List.setIfInBounds_toArray, List.set_cons_zero, List.set_cons_succ, i64_w, i32_w]
              rfl
            refine done_ (done_of HT_.out (by kernel_rfl)) ?_
            go_wp2
            refine bodyPost_ret (results_ct results37 _ _ w.heap.size 33 _ (0, 0) _ rfl Bz.out Tryd.underlying33 rfl (by kernel_rfl)) rfl ?_
            rw [HP.out]
            refine ⟨⟨.slice none 0 0, ?_, ?_⟩, ?_⟩
            · exact ent_fin (by show ((((piB a).2 && (piB b).2) && (puB f).2) && _) = false; rw [HO.out]; rfl)
            · exact R_any (R_fr (Kd.R_below HRy.out HQ0.out) Fz.out (fun j h1 h2 h3 hj => h3 hj))
            · exact (HB1.out.trans (HQy.out.mono HB1.out.size)).trans ((HQ0.out.mono (Nat.le_trans HB1.out.size HQy.out.size)).trans (Fz.out.toBelow (Nat.le_trans HB1.out.size (Nat.le_trans HQy.out.size HQ0.out.size)) (fun j hj => Nat.le_of_eq hj.symm)))
          | true =>
            rw [ho] at o0
            have HO : Aside0 (((piB a).2 && (piB b).2) = true) := ⟨by simpa using ho⟩
            clear ho
            refine start_ (n := 18) (S := fun W => W.cell? ⟨b7, 0, none⟩ = some (.int .i64 (piB a).1) ∧ W.cell? ⟨b7, 1, none⟩ = some (.int .i64 (piB b).1) ∧ W.cell? ⟨b7, 2, none⟩ = some (.string c) ∧ W.cell? ⟨b7, 3, none⟩ = some (.slice none 0 0) ∧ W.cell? ⟨b7, 4, none⟩ = some (.int .u64 (puB f).1) ∧ W.cell? ⟨W1.heap.size, 0, none⟩ = some (.bool true)) (ds := []) #[false, false, false, false, false, false, false, false, false, false, false, false, false, false, false, false, false, false] (by kernel_rfl) rfl rfl ⟨pw_cell_below HQ0.out q0, pw_cell_below HQ0.out q1, pw_cell_below HQ0.out q2, pw_cell_below HQ0.out q3, pw_cell_below HQ0.out q4, pw_cell_below HQ0.out o0⟩ (fun hHeld => ?_)
            refine with_tabW reg37_11.tab reg37_11.bits (fun HT_ HW_ => ?_)
            refine take_ (i := 0) (N := (some 49)) (v := ?_) (a' := ?_) #[true, false, false, false, false, false, false, false, false, false, false, false, false, false, false, false, false, false] rfl rfl (take_ofW HT_.out HW_.out (by kernel_rfl)) (fun _ _ _ h => h) (Or.inl ⟨by rfl, ?_⟩) hHeld ?_ ?_
            rotate_left
            · rintro w' ⟨s0, s1, s2, s3, s4, s5⟩
              go_simp
              with_reducible rfl
            rotate_left
            · simp only [Act.put, List.setIfInBounds_toArray, List.set_cons_zero, List.set_cons_succ, i64_w, i32_w]
              rfl
            refine take_ (i := 1) (N := (some 50)) (v := ?_) (a' := ?_) #[true, true, false, false, false, false, false, false, false, false, false, false, false, false, false, false, false, false] rfl rfl (take_ofW HT_.out HW_.out (by kernel_rfl)) (fun _ _ _ h => h) (Or.inl ⟨by rfl, ?_⟩) hHeld ?_ ?_
            rotate_left
            · rintro w' ⟨s0, s1, s2, s3, s4, s5⟩
              go_simp
              with_reducible rfl
            rotate_left
            · simp only [Act.put, List.setIfInBounds_toArray, List.set_cons_zero, List.set_cons_succ, i64_w, i32_w]
              rfl
            refine pure_ (i := 2) (N := (some 51)) (v := ?_) (a' := ?_) #[true, true, true, false, false, false, false, false, false, false, false, false, false, false, false, false, false, false] rfl rfl (any_of HT_.out (by kernel_rfl)) (fun _ _ _ h => h) (Or.inl ⟨by rfl, ?_⟩) ?_ ?_
            rotate_left
            · intro w'
              go_simp
              with_reducible rfl
            rotate_left
            · simp only [Act.put, List.setIfInBounds_toArray, List.set_cons_zero, List.set_cons_succ, i64_w, i32_w]
              rfl
            refine pure_ (i := 3) (N := (some 52)) (v := ?_) (a' := ?_) #[true, true, true, true, false, false, false, false, false, false, false, false, false, false, false, false, false, false] rfl rfl (any_of HT_.out (by kernel_rfl)) (fun _ _ _ h => h) (Or.inl ⟨by rfl, ?_⟩) ?_ ?_
            rotate_left
            · intro w'
              go_simp
              with_reducible rfl
            rotate_left
            · simp only [Act.put, List.setIfInBounds_toArray, List.set_cons_zero, List.set_cons_succ, i64_w, i32_w]
              rfl
            refine pure_ (i := 4) (N := (some 53)) (v := ?_) (a' := ?_) #[true, true, true, true, true, false, false, false, false, false, false, false, false, false, false, false, false, false] rfl rfl (any_of HT_.out (by kernel_rfl)) (fun _ _ _ h => h) (Or.inl ⟨by rfl, ?_⟩) ?_ ?_
            rotate_left
            · intro w'
              go_simp
              with_reducible rfl
            rotate_left
            · simp only [Act.put, List.setIfInBounds_toArray, List.set_cons_zero, List.set_cons_succ, i64_w, i32_w]
              rfl
            refine pure_ (i := 5) (N := (some 54)) (v := ?_) (a' := ?_) #[true, true, true, true, true, true, false, false, false, false, false, false, false, false, false, false, false, false] rfl rfl (any_of HT_.out (by kernel_rfl)) (fun _ _ _ h => h) (Or.inl ⟨by rfl, ?_⟩) ?_ ?_
            rotate_left
            · intro w'
              go_simp
              with_reducible rfl
            rotate_left
            · simp only [Act.put, List.setIfInBounds_toArray, List.set_cons_zero, List.set_cons_succ, i64_w, i32_w]
              rfl
            refine pure_ (i := 6) (N := (some 55)) (v := ?_) (a' := ?_) #[true, true, true, true, true, true, true, false, false, false, false, false, false, false, false, false, false, false] rfl rfl (any_of HT_.out (by kernel_rfl)) (fun _ _ _ h => h) (Or.inl ⟨by rfl, ?_⟩) ?_ ?_
            rotate_left
            · intro w'
              go_simp
              with_reducible rfl
            rotate_left
            · simp only [Act.put, List.setIfInBounds_toArray, List.set_cons_zero, List.set_cons_succ, i64_w, i32_w]
              rfl
            refine pure_ (i := 7) (N := (some 56)) (v := undef) (a' := ?_) #[true, true, true, true, true, true, true, true, false, false, false, false, false, false, false, false, false, false] rfl rfl (any_of HT_.out (by kernel_rfl)) (fun _ _ _ h => h) (Or.inr ⟨by rfl, rfl⟩) ?_ ?_
            rotate_left
            · simp only [Act.put, List.setIfInBounds_toArray, List.set_cons_zero, List.set_cons_succ, i64_w, i32_w]
              rfl
            refine pure_ (i := 8) (N := (some 57)) (v := undef) (a' := ?_) #[true, true, true, true, true, true, true, true, true, false, false, false, false, false, false, false, false, false] rfl rfl (any_of HT_.out (by kernel_rfl)) (fun _ _ _ h => h) (Or.inr ⟨by rfl, rfl⟩) ?_ ?_
            rotate_left
            · simp only [Act.put, List.setIfInBounds_toArray, List.set_cons_zero, List.set_cons_succ, i64_w, i32_w]
              rfl
            refine pure_ (i := 9) (N := (some 58)) (v := ?_) (a' := ?_) #[true, true, true, true, true, true, true, true, true, true, false, false, false, false, false, false, false, false] rfl rfl (any_of HT_.out (by kernel_rfl)) (fun _ _ _ h => h) (Or.inl ⟨by rfl, ?_⟩) ?_ ?_
            rotate_left
            · intro w'
              go_simp
              with_reducible rfl
            rotate_left
            · simp only [Act.put, List.setIfInBounds_toArray, List.set_cons_zero, List.set_cons_succ, i64_w, i32_w]
              rfl
            refine pure_ (i := 10) (N := (some 59)) (v := ?_) (a' := ?_) #[true, true, true, true, true, true, true, true, true, true, true, false, false, false, false, false, false, false] rfl rfl (any_of HT_.out (by kernel_rfl)) (fun _ _ _ h => h) (Or.inl ⟨by rfl, ?_⟩) ?_ ?_
            rotate_left
            · intro w'
              go_simp
              with_reducible rfl
            rotate_left
            · simp only [Act.put, List.setIfInBounds_toArray, List.set_cons_zero, List.set_cons_succ, i64_w, i32_w]
              rfl
            refine pure_ (i := 11) (N := (some 60)) (v := undef) (a' := ?_) #[true, true, true, true, true, true, true, true, true, true, true, true, false, false, false, false, false, false] rfl rfl (any_of HT_.out (by kernel_rfl)) (fun _ _ _ h => h) (Or.inr ⟨by rfl, rfl⟩) ?_ ?_
            rotate_left
            · simp only [Act.put, List.setIfInBounds_toArray, List.set_cons_zero, List.set_cons_succ, i64_w, i32_w]
              rfl
            refine pure_ (i := 12) (N := (some 61)) (v := undef) (a' := ?_) #[true, true, true, true, true, true, true, true, true, true, true, true, true, false, false, false, false, false] rfl rfl (any_of HT_.out (by kernel_rfl)) (fun _ _ _ h => h) (Or.inr ⟨by rfl, rfl⟩) ?_ ?_
            rotate_left
            · simp only [Act.put, List.setIfInBounds_toArray, List.set_cons_zero, List.set_cons_succ, i64_w, i32_w]
              rfl
            refine pure_ (i := 13) (N := (some 62)) (v := undef) (a' := ?_) #[true, true, true, true, true, true, true, true, true, true, true, true, true, true, false, false, false, false] rfl rfl (any_of HT_.out (by kernel_rfl)) (fun _ _ _ h => h) (Or.inr ⟨by rfl, rfl⟩) ?_ ?_
            rotate_left
            · simp only [Act.put, List.setIfInBounds_toArray, List.set_cons_zero, List.set_cons_succ, i64_w, i32_w]
              rfl
            refine pure_ (i := 14) (N := (some 63)) (v := undef) (a' := ?_) #[true, true, true, true, true, true, true, true, true, true, true, true, true, true, true, false, false, false] rfl rfl (any_of HT_.out (by kernel_rfl)) (fun _ _ _ h => h) (Or.inr ⟨by rfl, rfl⟩) ?_ ?_
            rotate_left
            · simp only [Act.put, List.setIfInBounds_toArray, List.set_cons_zero, List.set_cons_succ, i64_w, i32_w]
              rfl
            refine pure_ (i := 15) (N := (some 64)) (v := ?_) (a' := ?_) #[true, true, true, true, true, true, true, true, true, true, true, true, true, true, true, true, false, false] rfl rfl (any_of HT_.out (by kernel_rfl)) (fun _ _ _ h => h) (Or.inl ⟨by rfl, ?_⟩) ?_ ?_
            rotate_left
            · intro w'
              go_simp
              with_reducible rfl
            rotate_left
            · simp only [Act.put, List.setIfInBounds_toArray, List.set_cons_zero, List.set_cons_succ, i64_w, i32_w]
              rfl
            refine one_ (i := 16) (N := none) #[true, true, true, true, true, true, true, true, true, true, true, true, true, true, true, true, true, false] rfl rfl (one_of HT_.out (by kernel_rfl)) (by decide) (fun K hK => ?_)
            have B2w := Aside0.mk (blk_below B2y.out HQ0.out)
            obtain ⟨z0, z1, z2, z3, z4, zs⟩ := five B2y.out
            have fz := blk_frozen B2y.out
            refine skip_ (w1 := set5 Wy.drew w.heap.size (.int .i64 (piB a).1) (.int .i64 (piB b).1) (.string c) (.slice none 0 0) (.int .u64 (puB f).1)) (by rfl) rfl (by first | (go_simp; done) | (go_simp; rfl)) ?_
            clear z0 z1 z2 z3 z4 zs fz
            have Fz := Aside0.mk (set5_fr Wy.drew w.heap.size (.int .i64 (piB a).1) (.int .i64 (piB b).1) (.string c) (.slice none 0 0) (.int .u64 (puB f).1))
            have Bz := Aside0.mk (set5_blk B2w.out (.int .i64 (piB a).1) (.int .i64 (piB b).1) (.string c) (.slice none 0 0) (.int .u64 (puB f).1))
            refine hK.out _ _ ⟨Fz.out.cell (pw_cell_below HQ0.out q0) (fun hj => by have hj' : b7 = w.heap.size := hj; have h1 := HN.out; have h2 := HSz.out; omega), Fz.out.cell (pw_cell_below HQ0.out q1) (fun hj => by have hj' : b7 = w.heap.size := hj; have h1 := HN.out; have h2 := HSz.out; omega), Fz.out.cell (pw_cell_below HQ0.out q2) (fun hj => by have hj' : b7 = w.heap.size := hj; have h1 := HN.out; have h2 := HSz.out; omega), Fz.out.cell (pw_cell_below HQ0.out q3) (fun hj => by have hj' : b7 = w.heap.size := hj; have h1 := HN.out; have h2 := HSz.out; omega), Fz.out.cell (pw_cell_below HQ0.out q4) (fun hj => by have hj' : b7 = w.heap.size := hj; have h1 := HN.out; have h2 := HSz.out; omega), Fz.out.cell (pw_cell_below HQ0.out o0) (fun hj => by have hj' : W1.heap.size = w.heap.size := hj; have h2 := HSz.out; omega)⟩ (fun hHeld => ?_)
            clear hK K
            refine pure_ (i := 17) (N := (some 3)) (v := ?_) (a' := ?_) #[true, true, true, true, true, true, true, true, true, true, true, true, true, true, true, true, true, true] rfl rfl (any_of HT_.out (by kernel_rfl)) (fun _ _ _ h => h) (Or.inl ⟨by rfl, ?_⟩) ?_ ?_
            rotate_left
            · intro w'
              go_simp
              with_reducible rfl
            rotate_left
            · simp only [Act.put, List.setIfInBounds_toArray, List.set_cons_zero, List.set_cons_succ, i64_w, i32_w]
              rfl
            refine done_ (done_of HT_.out (by kernel_rfl)) ?_
            go_wp2
            refine bodyPost_ret (results_ct results37 _ _ w.heap.size 33 _ (0, 0) _ rfl Bz.out Tryd.underlying33 rfl (by kernel_rfl)) rfl ?_
            rw [HP.out]
            refine ⟨⟨.slice none 0 0, ?_, ?_⟩, ?_⟩
            · exact ent_fin (by show ((((piB a).2 && (piB b).2) && (puB f).2) && _) = false; rw [HO.out, HU.out]; rfl)
            · exact R_any (R_fr (Kd.R_below HRy.out HQ0.out) Fz.out (fun j h1 h2 h3 hj => h3 hj))
            · exact (HB1.out.trans (HQy.out.mono HB1.out.size)).trans ((HQ0.out.mono (Nat.le_trans HB1.out.size HQy.out.size)).trans (Fz.out.toBelow (Nat.le_trans HB1.out.size (Nat.le_trans HQy.out.size HQ0.out.size)) (fun j hj => Nat.le_of_eq hj.symm)))
        | true =>
          have HU := Aside0.mk hu
          rw [hu] at hev
          clear hu
          obtain rfl : ev = .nilIface := hev
          go_wp2_with fail
          clear q0 q1 q2 q3 q4 qs fq
          have F7 := Aside0.mk ((Fr.refl (one b7) V).setCell (p := ⟨b7, 4, none⟩) (.inl rfl) (.int .u64 (puB f).1))
          have B7y := Aside0.mk (blk_set B7v.out 4 (.int .u64 (puB f).1))
          have HQy := Aside0.mk (HQv.out.trans (F7.out.toBelow (B := W1.heap.size) HQv.out.size (fun j hj => by have hj' : j = b7 := hj; have := HN.out; omega)))
          have B5y := Aside0.mk (F7.out.blk B5v.out (fun hj => by have hj' : W1.heap.size = b7 := hj; have := HN.out; omega))
          have B2y := Aside0.mk (blk_below B2.out HQy.out)
          have HRy : Aside0 (Kd.string.R 9 (V.setCell ⟨b7, 4, none⟩ (.int .u64 (puB f).1)) w.heap.size (fun k => k ≠ w.heap.size) (.slice none 0 0) ([] : List ByteArray)) := ⟨R_fr HRv.out F7.out (fun j _ _ h3 hj => h3.2 hj) |> fun h => Kd.R_mono h (fun _ hk => hk.1)⟩
          obtain ⟨Wy, ey⟩ : ∃ Wy, Wy = V.setCell ⟨b7, 4, none⟩ (.int .u64 (puB f).1) := ⟨_, rfl⟩
          rw [← ey] at B7y HQy B5y B2y HRy ⊢
          clear ey F7
          have HCy : Aside0 (Kd.C Kd.string Wy none ([] : List ByteArray).length ([] : List ByteArray)) := ⟨by obtain ⟨A', c', e', _, hC⟩ := Kd.R_reads HRy.out; cases e'; exact hC⟩
          have HLy : Aside0 (([] : List ByteArray).length ≤ 0) := ⟨by obtain ⟨A', c', e', hl', _⟩ := Kd.R_reads HRy.out; cases e'; exact hl'⟩
          obtain ⟨q0, q1, q2, q3, q4, qs⟩ := five B7y.out
          have o0 := one_get B5y.out
          have HQ0 := Aside0.mk (below_drew (Below.refl Wy.heap.size Wy))
          cases ho : ((true && (piB a).2) && (piB b).2) with
          | false =>
            rw [ho] at o0
            have HO : Aside0 (((piB a).2 && (piB b).2) = false) := ⟨by simpa using ho⟩
            clear ho
            refine start_ (n := 18) (S := fun W => W.cell? ⟨b7, 0, none⟩ = some (.int .i64 (piB a).1) ∧ W.cell? ⟨b7, 1, none⟩ = some (.int .i64 (piB b).1) ∧ W.cell? ⟨b7, 2, none⟩ = some (.string c) ∧ W.cell? ⟨b7, 3, none⟩ = some (.slice none 0 0) ∧ W.cell? ⟨b7, 4, none⟩ = some (.int .u64 (puB f).1) ∧ W.cell? ⟨W1.heap.size, 0, none⟩ = some (.bool false)) (ds := []) #[false, false, false, false, false, false, false, false, false, false, false, false, false, false, false, false, false, false] (by kernel_rfl) rfl rfl ⟨pw_cell_below HQ0.out q0, pw_cell_below HQ0.out q1, pw_cell_below HQ0.out q2, pw_cell_below HQ0.out q3, pw_cell_below HQ0.out q4, pw_cell_below HQ0.out o0⟩ (fun hHeld => ?_)
            refine with_tabW reg37_11.tab reg37_11.bits (fun HT_ HW_ => ?_)
            refine take_ (i := 0) (N := (some 49)) (v := ?_) (a' := ?_) #[true, false, false, false, false, false, false, false, false, false, false, false, false, false, false, false, false, false] rfl rfl (take_ofW HT_.out HW_.out (by kernel_rfl)) (fun _ _ _ h => h) (Or.inl ⟨by rfl, ?_⟩) hHeld ?_ ?_
            rotate_left
            · rintro w' ⟨s0, s1, s2, s3, s4, s5⟩
              go_simp
              with_reducible rfl
            rotate_left
            · simp only [Act.put, List.setIfInBounds_toArray, List.set_cons_zero, List.set_cons_succ, i64_w, i32_w]
              rfl
            refine take_ (i := 1) (N := (some 50)) (v := ?_) (a' := ?_) #[true, true, false, false, false, false, false, false, false, false, false, false, false, false, false, false, false, false] rfl rfl (take_ofW HT_.out HW_.out (by kernel_rfl)) (fun _ _ _ h => h) (Or.inl ⟨by rfl, ?_⟩) hHeld ?_ ?_
            rotate_left
            · rintro w' ⟨s0, s1, s2, s3, s4, s5⟩
              go_simp
              with_reducible rfl
            rotate_left
            · simp only [Act.put, List.setIfInBounds_toArray, List.set_cons_zero, List.set_cons_succ, i64_w, i32_w]
              rfl
            refine pure_ (i := 2) (N := (some 51)) (v := ?_) (a' := ?_) #[true, true, true, false, false, false, false, false, false, false, false, false, false, false, false, false, false, false] rfl rfl (any_of HT_.out (by kernel_rfl)) (fun _ _ _ h => h) (Or.inl ⟨by rfl, ?_⟩) ?_ ?_
            rotate_left
            · intro w'
              go_simp
              with_reducible rfl
            rotate_left
            · simp only [Act.put, List.setIfInBounds_toArray, List.set_cons_zero, List.set_cons_succ, i64_w, i32_w]
              rfl
            refine pure_ (i := 3) (N := (some 52)) (v := undef) (a' := ?_) #[true, true, true, true, false, false, false, false, false, false, false, false, false, false, false, false, false, false] rfl rfl (any_of HT_.out (by kernel_rfl)) (fun _ _ _ h => h) (Or.inr ⟨by rfl, rfl⟩) ?_ ?_
            rotate_left
            · simp only [Act.put, List.setIfInBounds_toArray, List.set_cons_zero, List.set_cons_succ, i64_w, i32_w]
              rfl
            refine pure_ (i := 4) (N := (some 53)) (v := undef) (a' := ?_) #[true, true, true, true, true, false, false, false, false, false, false, false, false, false, false, false, false, false] rfl rfl (any_of HT_.out (by kernel_rfl)) (fun _ _ _ h => h) (Or.inr ⟨by rfl, rfl⟩) ?_ ?_
            rotate_left
            · simp only [Act.put, List.setIfInBounds_toArray, List.set_cons_zero, List.set_cons_succ, i64_w, i32_w]
              rfl
            refine pure_ (i := 5) (N := (some 54)) (v := ?_) (a' := ?_) #[true, true, true, true, true, true, false, false, false, false, false, false, false, false, false, false, false, false] rfl rfl (any_of HT_.out (by kernel_rfl)) (fun _ _ _ h => h) (Or.inl ⟨by rfl, ?_⟩) ?_ ?_
            rotate_left
            · intro w'
              go_simp
              with_reducible rfl
            rotate_left
            · simp only [Act.put, List.setIfInBounds_toArray, List.set_cons_zero, List.set_cons_succ, i64_w, i32_w]
              rfl
            refine pure_ (i := 6) (N := (some 55)) (v := ?_) (a' := ?_) #[true, true, true, true, true, true, true, false, false, false, false, false, false, false, false, false, false, false] rfl rfl (any_of HT_.out (by kernel_rfl)) (fun _ _ _ h => h) (Or.inl ⟨by rfl, ?_⟩) ?_ ?_
            rotate_left
            · intro w'
              go_simp
              with_reducible rfl
            rotate_left
            · simp only [Act.put, List.setIfInBounds_toArray, List.set_cons_zero, List.set_cons_succ, i64_w, i32_w]
              rfl
            refine pure_ (i := 7) (N := (some 56)) (v := undef) (a' := ?_) #[true, true, true, true, true, true, true, true, false, false, false, false, false, false, false, false, false, false] rfl rfl (any_of HT_.out (by kernel_rfl)) (fun _ _ _ h => h) (Or.inr ⟨by rfl, rfl⟩) ?_ ?_
            rotate_left
            · simp only [Act.put, List.setIfInBounds_toArray, List.set_cons_zero, List.set_cons_succ, i64_w, i32_w]
              rfl
            refine pure_ (i := 8) (N := (some 57)) (v := undef) (a' := ?_) #[true, true, true, true, true, true, true, true, true, false, false, false, false, false, false, false, false, false] rfl rfl (any_of HT_.out (by kernel_rfl)) (fun _ _ _ h => h) (Or.inr ⟨by rfl, rfl⟩) ?_ ?_
            rotate_left
            · simp only [Act.put, List.setIfInBounds_toArray, List.set_cons_zero, List.set_cons_succ, i64_w, i32_w]
              rfl
            refine pure_ (i := 9) (N := (some 58)) (v := ?_) (a' := ?_) #[true, true, true, true, true, true, true, true, true, true, false, false, false, false, false, false, false, false] rfl rfl (any_of HT_.out (by kernel_rfl)) (fun _ _ _ h => h) (Or.inl ⟨by rfl, ?_⟩) ?_ ?_
            rotate_left
            · intro w'
              go_simp
              with_reducible rfl
            rotate_left
            · simp only [Act.put, List.setIfInBounds_toArray, List.set_cons_zero, List.set_cons_succ, i64_w, i32_w]
              rfl
            refine pure_ (i := 10) (N := (some 59)) (v := ?_) (a' := ?_) #[true, true, true, true, true, true, true, true, true, true, true, false, false, false, false, false, false, false] rfl rfl (any_of HT_.out (by kernel_rfl)) (fun _ _ _ h => h) (Or.inl ⟨by rfl, ?_⟩) ?_ ?_
            rotate_left
            · intro w'
              go_simp
              with_reducible rfl
            rotate_left
            · simp only [Act.put, List.setIfInBounds_toArray, List.set_cons_zero, List.set_cons_succ, i64_w, i32_w]
              rfl
            refine pure_ (i := 11) (N := (some 60)) (v := undef) (a' := ?_) #[true, true, true, true, true, true, true, true, true, true, true, true, false, false, false, false, false, false] rfl rfl (any_of HT_.out (by kernel_rfl)) (fun _ _ _ h => h) (Or.inr ⟨by rfl, rfl⟩) ?_ ?_
            rotate_left
            · simp only [Act.put, List.setIfInBounds_toArray, List.set_cons_zero, List.set_cons_succ, i64_w, i32_w]
              rfl
            refine pure_ (i := 12) (N := (some 61)) (v := undef) (a' := ?_) #[true, true, true, true, true, true, true, true, true, true, true, true, true, false, false, false, false, false] rfl rfl (any_of HT_.out (by kernel_rfl)) (fun _ _ _ h => h) (Or.inr ⟨by rfl, rfl⟩) ?_ ?_
            rotate_left
            · simp only [Act.put, List.setIfInBounds_toArray, List.set_cons_zero, List.set_cons_succ, i64_w, i32_w]
              rfl
            refine pure_ (i := 13) (N := (some 62)) (v := undef) (a' := ?_) #[true, true, true, true, true, true, true, true, true, true, true, true, true, true, false, false, false, false] rfl rfl (any_of HT_.out (by kernel_rfl)) (fun _ _ _ h => h) (Or.inr ⟨by rfl, rfl⟩) ?_ ?_
            rotate_left
            · simp only [Act.put, List.setIfInBounds_toArray, List.set_cons_zero, List.set_cons_succ, i64_w, i32_w]
              rfl
            refine pure_ (i := 14) (N := (some 63)) (v := undef) (a' := ?_) #[true, true, true, true, true, true, true, true, true, true, true, true, true, true, true, false, false, false] rfl rfl (any_of HT_.out (by kernel_rfl)) (fun _ _ _ h => h) (Or.inr ⟨by rfl, rfl⟩) ?_ ?_
            rotate_left
            · simp only [Act.put, List.setIfInBounds_toArray, List.set_cons_zero, List.set_cons_succ, i64_w, i32_w]
              rfl
            refine pure_ (i := 15) (N := (some 64)) (v := ?_) (a' := ?_) #[true, true, true, true, true, true, true, true, true, true, true, true, true, true, true, true, false, false] rfl rfl (any_of HT_.out (by kernel_rfl)) (fun _ _ _ h => h) (Or.inl ⟨by rfl, ?_⟩) ?_ ?_
            rotate_left
            · intro w'
              go_simp
              with_reducible rfl
            rotate_left
            · simp only [Act.put, List.setIfInBounds_toArray, List.set_cons_zero, List.set_cons_succ, i64_w, i32_w]
              rfl
            refine one_ (i := 16) (N := none) #[true, true, true, true, true, true, true, true, true, true, true, true, true, true, true, true, true, false] rfl rfl (one_of HT_.out (by kernel_rfl)) (by decide) (fun K hK => ?_)
            have B2w := Aside0.mk (blk_below B2y.out HQ0.out)
            obtain ⟨z0, z1, z2, z3, z4, zs⟩ := five B2y.out
            have fz := blk_frozen B2y.out
            refine skip_ (w1 := set5 Wy.drew w.heap.size (.int .i64 (piB a).1) (.int .i64 (piB b).1) (.string c) (.slice none 0 0) (.int .u64 (puB f).1)) (by rfl) rfl (by first | (go_simp; done) | (go_simp; rfl)) ?_
            clear z0 z1 z2 z3 z4 zs fz
            have Fz := Aside0.mk (set5_fr Wy.drew w.heap.size (.int .i64 (piB a).1) (.int .i64 (piB b).1) (.string c) (.slice none 0 0) (.int .u64 (puB f).1))
            have Bz := Aside0.mk (set5_blk B2w.out (.int .i64 (piB a).1) (.int .i64 (piB b).1) (.string c) (.slice none 0 0) (.int .u64 (puB f).1))
            refine hK.out _ _ ⟨Fz.out.cell (pw_cell_below HQ0.out q0) (fun hj => by have hj' : b7 = w.heap.size := hj; have h1 := HN.out; have h2 := HSz.out; omega), Fz.out.cell (pw_cell_below HQ0.out q1) (fun hj => by have hj' : b7 = w.heap.size := hj; have h1 := HN.out; have h2 := HSz.out; omega), Fz.out.cell (pw_cell_below HQ0.out q2) (fun hj => by have hj' : b7 = w.heap.size := hj; have h1 := HN.out; have h2 := HSz.out; omega), Fz.out.cell (pw_cell_below HQ0.out q3) (fun hj => by have hj' : b7 = w.heap.size := hj; have h1 := HN.out; have h2 := HSz.out; omega), Fz.out.cell (pw_cell_below HQ0.out q4) (fun hj => by have hj' : b7 = w.heap.size := hj; have h1 := HN.out; have h2 := HSz.out; omega), Fz.out.cell (pw_cell_below HQ0.out o0) (fun hj => by have hj' : W1.heap.size = w.heap.size := hj; have h2 := HSz.out; omega)⟩ (fun hHeld => ?_)
            clear hK K
            refine pure_ (i := 17) (N := (some 3)) (v := ?_) (a' := ?_) #[true, true, true, true, true, true, true, true, true, true, true, true, true, true, true, true, true, true] rfl rfl (any_of HT_.out (by kernel_rfl)) (fun _ _ _ h => h) (Or.inl ⟨by rfl, ?_⟩) ?_ ?_
            rotate_left
            · intro w'
              go_simp
              with_reducible rfl
            rotate_left
            · simp only [Act.put, List.setIfInBounds_toArray, List.set_cons_zero, List.set_cons_succ, i64_w, i32_w]
              rfl
            refine done_ (done_of HT_.out (by kernel_rfl)) ?_
            go_wp2
            refine bodyPost_ret (results_ct results37 _ _ w.heap.size 33 _ (0, 0) _ rfl Bz.out Tryd.underlying33 rfl (by kernel_rfl)) rfl ?_
            rw [HP.out]
            refine ⟨⟨.slice none 0 0, ?_, ?_⟩, ?_⟩
            · exact ent_fin (by show ((((piB a).2 && (piB b).2) && (puB f).2) && _) = false; rw [HO.out]; rfl)
            · exact R_any (R_fr (Kd.R_below HRy.out HQ0.out) Fz.out (fun j h1 h2 h3 hj => h3 hj))
            · exact (HB1.out.trans (HQy.out.mono HB1.out.size)).trans ((HQ0.out.mono (Nat.le_trans HB1.out.size HQy.out.size)).trans (Fz.out.toBelow (Nat.le_trans HB1.out.size (Nat.le_trans HQy.out.size HQ0.out.size)) (fun j hj => Nat.le_of_eq hj.symm)))
          | true =>
            rw [ho] at o0
            have HO : Aside0 (((piB a).2 && (piB b).2) = true) := ⟨by simpa using ho⟩
            clear ho
            cases hm : mayE (piB a).1 (piB b).1 c [] with
            | false =>
              have HM := Aside0.mk hm
              clear hm
              refine start_ (n := 18) (S := fun W => W.cell? ⟨b7, 0, none⟩ = some (.int .i64 (piB a).1) ∧ W.cell? ⟨b7, 1, none⟩ = some (.int .i64 (piB b).1) ∧ W.cell? ⟨b7, 2, none⟩ = some (.string c) ∧ W.cell? ⟨b7, 3, none⟩ = some (.slice none 0 0) ∧ W.cell? ⟨b7, 4, none⟩ = some (.int .u64 (puB f).1) ∧ W.cell? ⟨W1.heap.size, 0, none⟩ = some (.bool true)) (ds := []) #[false, false, false, false, false, false, false, false, false, false, false, false, false, false, false, false, false, false] (by kernel_rfl) rfl rfl ⟨pw_cell_below HQ0.out q0, pw_cell_below HQ0.out q1, pw_cell_below HQ0.out q2, pw_cell_below HQ0.out q3, pw_cell_below HQ0.out q4, pw_cell_below HQ0.out o0⟩ (fun hHeld => ?_)
              refine with_tabW reg37_11.tab reg37_11.bits (fun HT_ HW_ => ?_)
              refine take_ (i := 0) (N := (some 49)) (v := ?_) (a' := ?_) #[true, false, false, false, false, false, false, false, false, false, false, false, false, false, false, false, false, false] rfl rfl (take_ofW HT_.out HW_.out (by kernel_rfl)) (fun _ _ _ h => h) (Or.inl ⟨by rfl, ?_⟩) hHeld ?_ ?_
              rotate_left
              · rintro w' ⟨s0, s1, s2, s3, s4, s5⟩
                go_simp
                with_reducible rfl
              rotate_left
              · simp only [Act.put, List.setIfInBounds_toArray, List.set_cons_zero, List.set_cons_succ, i64_w, i32_w]
                rfl
              refine take_ (i := 1) (N := (some 50)) (v := ?_) (a' := ?_) #[true, true, false, false, false, false, false, false, false, false, false, false, false, false, false, false, false, false] rfl rfl (take_ofW HT_.out HW_.out (by kernel_rfl)) (fun _ _ _ h => h) (Or.inl ⟨by rfl, ?_⟩) hHeld ?_ ?_
              rotate_left
              · rintro w' ⟨s0, s1, s2, s3, s4, s5⟩
                go_simp
                with_reducible rfl
              rotate_left
              · simp only [Act.put, List.setIfInBounds_toArray, List.set_cons_zero, List.set_cons_succ, i64_w, i32_w]
                rfl
              refine pure_ (i := 2) (N := (some 51)) (v := ?_) (a' := ?_) #[true, true, true, false, false, false, false, false, false, false, false, false, false, false, false, false, false, false] rfl rfl (any_of HT_.out (by kernel_rfl)) (fun _ _ _ h => h) (Or.inl ⟨by rfl, ?_⟩) ?_ ?_
              rotate_left
              · intro w'
                go_simp
                with_reducible rfl
              rotate_left
              · simp only [Act.put, List.setIfInBounds_toArray, List.set_cons_zero, List.set_cons_succ, i64_w, i32_w]
                rfl
              refine pure_ (i := 3) (N := (some 52)) (v := ?_) (a' := ?_) #[true, true, true, true, false, false, false, false, false, false, false, false, false, false, false, false, false, false] rfl rfl (any_of HT_.out (by kernel_rfl)) (fun _ _ _ h => h) (Or.inl ⟨by rfl, ?_⟩) ?_ ?_
              rotate_left
              · intro w'
                go_simp
                with_reducible rfl
              rotate_left
              · simp only [Act.put, List.setIfInBounds_toArray, List.set_cons_zero, List.set_cons_succ, i64_w, i32_w]
                rfl
              refine pure_ (i := 4) (N := (some 53)) (v := ?_) (a' := ?_) #[true, true, true, true, true, false, false, false, false, false, false, false, false, false, false, false, false, false] rfl rfl (any_of HT_.out (by kernel_rfl)) (fun _ _ _ h => h) (Or.inl ⟨by rfl, ?_⟩) ?_ ?_
              rotate_left
              · intro w'
                go_simp
                with_reducible rfl
              rotate_left
              · simp only [Act.put, List.setIfInBounds_toArray, List.set_cons_zero, List.set_cons_succ, i64_w, i32_w]
                rfl
              refine pure_ (i := 5) (N := (some 54)) (v := ?_) (a' := ?_) #[true, true, true, true, true, true, false, false, false, false, false, false, false, false, false, false, false, false] rfl rfl (any_of HT_.out (by kernel_rfl)) (fun _ _ _ h => h) (Or.inl ⟨by rfl, ?_⟩) ?_ ?_
              rotate_left
              · intro w'
                go_simp
                with_reducible rfl
              rotate_left
              · simp only [Act.put, List.setIfInBounds_toArray, List.set_cons_zero, List.set_cons_succ, i64_w, i32_w]
                rfl
              refine pure_ (i := 6) (N := (some 55)) (v := ?_) (a' := ?_) #[true, true, true, true, true, true, true, false, false, false, false, false, false, false, false, false, false, false] rfl rfl (any_of HT_.out (by kernel_rfl)) (fun _ _ _ h => h) (Or.inl ⟨by rfl, ?_⟩) ?_ ?_
              rotate_left
              · intro w'
                go_simp
                with_reducible rfl
              rotate_left
              · simp only [Act.put, List.setIfInBounds_toArray, List.set_cons_zero, List.set_cons_succ, i64_w, i32_w]
                rfl
              refine take_ (i := 7) (N := (some 56)) (v := ?_) (a' := ?_) #[true, true, true, true, true, true, true, true, false, false, false, false, false, false, false, false, false, false] rfl rfl (take_ofW HT_.out HW_.out (by kernel_rfl)) (fun _ _ _ h => h) (Or.inl ⟨by rfl, ?_⟩) hHeld ?_ ?_
              rotate_left
              · rintro w' ⟨s0, s1, s2, s3, s4, s5⟩
                go_simp
                with_reducible rfl
              rotate_left
              · simp only [Act.put, List.setIfInBounds_toArray, List.set_cons_zero, List.set_cons_succ, i64_w, i32_w]
                rfl
              refine one_ (i := 8) (N := (some 57)) #[true, true, true, true, true, true, true, true, true, false, false, false, false, false, false, false, false, false] rfl rfl (one_of HT_.out (by kernel_rfl)) (by decide) (fun K hK => ?_)
              refine goes_ Tryd.func26 (by kernel_rfl) rfl #[.agg #[.int .i64 (piB a).1, .int .i64 (piB b).1, .string c, .slice none 0 0, .int .u64 (puB f).1]] (by rfl) rfl rfl (by (try simp only [List.map_toArray, List.map_cons, List.map_nil]); first | done | rfl) ?_
              refine (mayE_calls (piB a).1 (piB b).1 c none 0 [] (puB f).1 _ (Kd.C_below HCy.out HQ0.out)).mono ?_
              rintro e V1 ⟨rfl, hb⟩
              refine ⟨_, rfl, ?_⟩
              have HQ1 := Aside0.mk (HQ0.out.trans (hb.mono HQ0.out.size))
              clear hb
              rw [HM.out]
              refine hK.out _ _ ⟨pw_cell_below HQ1.out q0, pw_cell_below HQ1.out q1, pw_cell_below HQ1.out q2, pw_cell_below HQ1.out q3, pw_cell_below HQ1.out q4, pw_cell_below HQ1.out o0⟩ (fun hHeld => ?_)
              clear hK K
              refine norm_ (a' := ?_) ?_ ?_
              rotate_left
              · show Act.put _ (some 57) _ = _
                simp only [Act.put, List.setIfInBounds_toArray, List.set_cons_zero, List.set_cons_succ, i64_w, i32_w]
                rfl
              refine pure_ (i := 9) (N := (some 58)) (v := ?_) (a' := ?_) #[true, true, true, true, true, true, true, true, true, true, false, false, false, false, false, false, false, false] rfl rfl (any_of HT_.out (by kernel_rfl)) (fun _ _ _ h => h) (Or.inl ⟨by rfl, ?_⟩) ?_ ?_
              rotate_left
              · intro w'
                go_simp
                with_reducible rfl
              rotate_left
              · simp only [Act.put, List.setIfInBounds_toArray, List.set_cons_zero, List.set_cons_succ, i64_w, i32_w]
                rfl
              refine pure_ (i := 10) (N := (some 59)) (v := ?_) (a' := ?_) #[true, true, true, true, true, true, true, true, true, true, true, false, false, false, false, false, false, false] rfl rfl (any_of HT_.out (by kernel_rfl)) (fun _ _ _ h => h) (Or.inl ⟨by rfl, ?_⟩) ?_ ?_
              rotate_left
              · intro w'
                go_simp
                with_reducible rfl
              rotate_left
              · simp only [Act.put, List.setIfInBounds_toArray, List.set_cons_zero, List.set_cons_succ, i64_w, i32_w]
                rfl
              refine pure_ (i := 11) (N := (some 60)) (v := undef) (a' := ?_) #[true, true, true, true, true, true, true, true, true, true, true, true, false, false, false, false, false, false] rfl rfl (any_of HT_.out (by kernel_rfl)) (fun _ _ _ h => h) (Or.inr ⟨by rfl, rfl⟩) ?_ ?_
              rotate_left
              · simp only [Act.put, List.setIfInBounds_toArray, List.set_cons_zero, List.set_cons_succ, i64_w, i32_w]
                rfl
              refine pure_ (i := 12) (N := (some 61)) (v := undef) (a' := ?_) #[true, true, true, true, true, true, true, true, true, true, true, true, true, false, false, false, false, false] rfl rfl (any_of HT_.out (by kernel_rfl)) (fun _ _ _ h => h) (Or.inr ⟨by rfl, rfl⟩) ?_ ?_
              rotate_left
              · simp only [Act.put, List.setIfInBounds_toArray, List.set_cons_zero, List.set_cons_succ, i64_w, i32_w]
                rfl
              refine pure_ (i := 13) (N := (some 62)) (v := undef) (a' := ?_) #[true, true, true, true, true, true, true, true, true, true, true, true, true, true, false, false, false, false] rfl rfl (any_of HT_.out (by kernel_rfl)) (fun _ _ _ h => h) (Or.inr ⟨by rfl, rfl⟩) ?_ ?_
              rotate_left
              · simp only [Act.put, List.setIfInBounds_toArray, List.set_cons_zero, List.set_cons_succ, i64_w, i32_w]
                rfl
              refine pure_ (i := 14) (N := (some 63)) (v := undef) (a' := ?_) #[true, true, true, true, true, true, true, true, true, true, true, true, true, true, true, false, false, false] rfl rfl (any_of HT_.out (by kernel_rfl)) (fun _ _ _ h => h) (Or.inr ⟨by rfl, rfl⟩) ?_ ?_
              rotate_left
              · simp only [Act.put, List.setIfInBounds_toArray, List.set_cons_zero, List.set_cons_succ, i64_w, i32_w]
                rfl
              refine pure_ (i := 15) (N := (some 64)) (v := ?_) (a' := ?_) #[true, true, true, true, true, true, true, true, true, true, true, true, true, true, true, true, false, false] rfl rfl (any_of HT_.out (by kernel_rfl)) (fun _ _ _ h => h) (Or.inl ⟨by rfl, ?_⟩) ?_ ?_
              rotate_left
              · intro w'
                go_simp
                with_reducible rfl
              rotate_left
              · simp only [Act.put, List.setIfInBounds_toArray, List.set_cons_zero, List.set_cons_succ, i64_w, i32_w]
                rfl
              refine one_ (i := 16) (N := none) #[true, true, true, true, true, true, true, true, true, true, true, true, true, true, true, true, true, false] rfl rfl (one_of HT_.out (by kernel_rfl)) (by decide) (fun K hK => ?_)
              have B2w := Aside0.mk (blk_below B2y.out HQ1.out)
              obtain ⟨z0, z1, z2, z3, z4, zs⟩ := five B2w.out
              have fz := blk_frozen B2w.out
              refine skip_ (w1 := set5 V1 w.heap.size (.int .i64 (piB a).1) (.int .i64 (piB b).1) (.string c) (.slice none 0 0) (.int .u64 (puB f).1)) (by rfl) rfl (by first | (go_simp; done) | (go_simp; rfl)) ?_
              clear z0 z1 z2 z3 z4 zs fz
              have Fz := Aside0.mk (set5_fr V1 w.heap.size (.int .i64 (piB a).1) (.int .i64 (piB b).1) (.string c) (.slice none 0 0) (.int .u64 (puB f).1))
              have Bz := Aside0.mk (set5_blk B2w.out (.int .i64 (piB a).1) (.int .i64 (piB b).1) (.string c) (.slice none 0 0) (.int .u64 (puB f).1))
              refine hK.out _ _ ⟨Fz.out.cell (pw_cell_below HQ1.out q0) (fun hj => by have hj' : b7 = w.heap.size := hj; have h1 := HN.out; have h2 := HSz.out; omega), Fz.out.cell (pw_cell_below HQ1.out q1) (fun hj => by have hj' : b7 = w.heap.size := hj; have h1 := HN.out; have h2 := HSz.out; omega), Fz.out.cell (pw_cell_below HQ1.out q2) (fun hj => by have hj' : b7 = w.heap.size := hj; have h1 := HN.out; have h2 := HSz.out; omega), Fz.out.cell (pw_cell_below HQ1.out q3) (fun hj => by have hj' : b7 = w.heap.size := hj; have h1 := HN.out; have h2 := HSz.out; omega), Fz.out.cell (pw_cell_below HQ1.out q4) (fun hj => by have hj' : b7 = w.heap.size := hj; have h1 := HN.out; have h2 := HSz.out; omega), Fz.out.cell (pw_cell_below HQ1.out o0) (fun hj => by have hj' : W1.heap.size = w.heap.size := hj; have h2 := HSz.out; omega)⟩ (fun hHeld => ?_)
              clear hK K
              refine pure_ (i := 17) (N := (some 3)) (v := ?_) (a' := ?_) #[true, true, true, true, true, true, true, true, true, true, true, true, true, true, true, true, true, true] rfl rfl (any_of HT_.out (by kernel_rfl)) (fun _ _ _ h => h) (Or.inl ⟨by rfl, ?_⟩) ?_ ?_
              rotate_left
              · intro w'
                go_simp
                with_reducible rfl
              rotate_left
              · simp only [Act.put, List.setIfInBounds_toArray, List.set_cons_zero, List.set_cons_succ, i64_w, i32_w]
                rfl
              refine done_ (done_of HT_.out (by kernel_rfl)) ?_
              go_wp2
              refine bodyPost_ret (results_ct results37 _ _ w.heap.size 33 _ (0, 0) _ rfl Bz.out Tryd.underlying33 rfl (by kernel_rfl)) rfl ?_
              rw [HP.out]
              refine ⟨⟨.slice none 0 0, ?_, ?_⟩, ?_⟩
              · exact ent_fin (by show ((((piB a).2 && (piB b).2) && (puB f).2) && (mayE (piB a).1 (piB b).1 c [] && _)) = false; rw [HO.out, HU.out, HM.out]; rfl)
              · exact R_any (R_fr (Kd.R_below HRy.out HQ1.out) Fz.out (fun j h1 h2 h3 hj => h3 hj))
              · exact (HB1.out.trans (HQy.out.mono HB1.out.size)).trans ((HQ1.out.mono (Nat.le_trans HB1.out.size HQy.out.size)).trans (Fz.out.toBelow (Nat.le_trans HB1.out.size (Nat.le_trans HQy.out.size HQ1.out.size)) (fun j hj => Nat.le_of_eq hj.symm)))
            | true =>
              have HM := Aside0.mk hm
              clear hm
              refine start_ (n := 18) (S := fun W => W.cell? ⟨b7, 0, none⟩ = some (.int .i64 (piB a).1) ∧ W.cell? ⟨b7, 1, none⟩ = some (.int .i64 (piB b).1) ∧ W.cell? ⟨b7, 2, none⟩ = some (.string c) ∧ W.cell? ⟨b7, 3, none⟩ = some (.slice none 0 0) ∧ W.cell? ⟨b7, 4, none⟩ = some (.int .u64 (puB f).1) ∧ W.cell? ⟨W1.heap.size, 0, none⟩ = some (.bool true)) (ds := []) #[false, false, false, false, false, false, false, false, false, false, false, false, false, false, false, false, false, false] (by kernel_rfl) rfl rfl ⟨pw_cell_below HQ0.out q0, pw_cell_below HQ0.out q1, pw_cell_below HQ0.out q2, pw_cell_below HQ0.out q3, pw_cell_below HQ0.out q4, pw_cell_below HQ0.out o0⟩ (fun hHeld => ?_)
              refine with_tabW reg37_11.tab reg37_11.bits (fun HT_ HW_ => ?_)
              refine take_ (i := 0) (N := (some 49)) (v := ?_) (a' := ?_) #[true, false, false, false, false, false, false, false, false, false, false, false, false, false, false, false, false, false] rfl rfl (take_ofW HT_.out HW_.out (by kernel_rfl)) (fun _ _ _ h => h) (Or.inl ⟨by rfl, ?_⟩) hHeld ?_ ?_
              rotate_left
              · rintro w' ⟨s0, s1, s2, s3, s4, s5⟩
                go_simp
                with_reducible rfl
              rotate_left
              · simp only [Act.put, List.setIfInBounds_toArray, List.set_cons_zero, List.set_cons_succ, i64_w, i32_w]
                rfl
              refine take_ (i := 1) (N := (some 50)) (v := ?_) (a' := ?_) #[true, true, false, false, false, false, false, false, false, false, false, false, false, false, false, false, false, false] rfl rfl (take_ofW HT_.out HW_.out (by kernel_rfl)) (fun _ _ _ h => h) (Or.inl ⟨by rfl, ?_⟩) hHeld ?_ ?_
              rotate_left
              · rintro w' ⟨s0, s1, s2, s3, s4, s5⟩
                go_simp
                with_reducible rfl
              rotate_left
              · simp only [Act.put, List.setIfInBounds_toArray, List.set_cons_zero, List.set_cons_succ, i64_w, i32_w]
                rfl
              refine pure_ (i := 2) (N := (some 51)) (v := ?_) (a' := ?_) #[true, true, true, false, false, false, false, false, false, false, false, false, false, false, false, false, false, false] rfl rfl (any_of HT_.out (by kernel_rfl)) (fun _ _ _ h => h) (Or.inl ⟨by rfl, ?_⟩) ?_ ?_
              rotate_left
              · intro w'
                go_simp
                with_reducible rfl
              rotate_left
              · simp only [Act.put, List.setIfInBounds_toArray, List.set_cons_zero, List.set_cons_succ, i64_w, i32_w]
                rfl
              refine pure_ (i := 3) (N := (some 52)) (v := ?_) (a' := ?_) #[true, true, true, true, false, false, false, false, false, false, false, false, false, false, false, false, false, false] rfl rfl (any_of HT_.out (by kernel_rfl)) (fun _ _ _ h => h) (Or.inl ⟨by rfl, ?_⟩) ?_ ?_
              rotate_left
              · intro w'
                go_simp
                with_reducible rfl
              rotate_left
              · simp only [Act.put, List.setIfInBounds_toArray, List.set_cons_zero, List.set_cons_succ, i64_w, i32_w]
                rfl
              refine pure_ (i := 4) (N := (some 53)) (v := ?_) (a' := ?_) #[true, true, true, true, true, false, false, false, false, false, false, false, false, false, false, false, false, false] rfl rfl (any_of HT_.out (by kernel_rfl)) (fun _ _ _ h => h) (Or.inl ⟨by rfl, ?_⟩) ?_ ?_
              rotate_left
              · intro w'
                go_simp
                with_reducible rfl
              rotate_left
              · simp only [Act.put, List.setIfInBounds_toArray, List.set_cons_zero, List.set_cons_succ, i64_w, i32_w]
                rfl
              refine pure_ (i := 5) (N := (some 54)) (v := ?_) (a' := ?_) #[true, true, true, true, true, true, false, false, false, false, false, false, false, false, false, false, false, false] rfl rfl (any_of HT_.out (by kernel_rfl)) (fun _ _ _ h => h) (Or.inl ⟨by rfl, ?_⟩) ?_ ?_
              rotate_left
              · intro w'
                go_simp
                with_reducible rfl
              rotate_left
              · simp only [Act.put, List.setIfInBounds_toArray, List.set_cons_zero, List.set_cons_succ, i64_w, i32_w]
                rfl
              refine pure_ (i := 6) (N := (some 55)) (v := ?_) (a' := ?_) #[true, true, true, true, true, true, true, false, false, false, false, false, false, false, false, false, false, false] rfl rfl (any_of HT_.out (by kernel_rfl)) (fun _ _ _ h => h) (Or.inl ⟨by rfl, ?_⟩) ?_ ?_
              rotate_left
              · intro w'
                go_simp
                with_reducible rfl
              rotate_left
              · simp only [Act.put, List.setIfInBounds_toArray, List.set_cons_zero, List.set_cons_succ, i64_w, i32_w]
                rfl
              refine take_ (i := 7) (N := (some 56)) (v := ?_) (a' := ?_) #[true, true, true, true, true, true, true, true, false, false, false, false, false, false, false, false, false, false] rfl rfl (take_ofW HT_.out HW_.out (by kernel_rfl)) (fun _ _ _ h => h) (Or.inl ⟨by rfl, ?_⟩) hHeld ?_ ?_
              rotate_left
              · rintro w' ⟨s0, s1, s2, s3, s4, s5⟩
                go_simp
                with_reducible rfl
              rotate_left
              · simp only [Act.put, List.setIfInBounds_toArray, List.set_cons_zero, List.set_cons_succ, i64_w, i32_w]
                rfl
              refine one_ (i := 8) (N := (some 57)) #[true, true, true, true, true, true, true, true, true, false, false, false, false, false, false, false, false, false] rfl rfl (one_of HT_.out (by kernel_rfl)) (by decide) (fun K hK => ?_)
              refine goes_ Tryd.func26 (by kernel_rfl) rfl #[.agg #[.int .i64 (piB a).1, .int .i64 (piB b).1, .string c, .slice none 0 0, .int .u64 (puB f).1]] (by rfl) rfl rfl (by (try simp only [List.map_toArray, List.map_cons, List.map_nil]); first | done | rfl) ?_
              refine (mayE_calls (piB a).1 (piB b).1 c none 0 [] (puB f).1 _ (Kd.C_below HCy.out HQ0.out)).mono ?_
              rintro e V1 ⟨rfl, hb⟩
              refine ⟨_, rfl, ?_⟩
              have HQ1 := Aside0.mk (HQ0.out.trans (hb.mono HQ0.out.size))
              clear hb
              rw [HM.out]
              refine hK.out _ _ ⟨pw_cell_below HQ1.out q0, pw_cell_below HQ1.out q1, pw_cell_below HQ1.out q2, pw_cell_below HQ1.out q3, pw_cell_below HQ1.out q4, pw_cell_below HQ1.out o0⟩ (fun hHeld => ?_)
              clear hK K
              refine norm_ (a' := ?_) ?_ ?_
              rotate_left
              · show Act.put _ (some 57) _ = _
                simp only [Act.put, List.setIfInBounds_toArray, List.set_cons_zero, List.set_cons_succ, i64_w, i32_w]
                rfl
              refine pure_ (i := 9) (N := (some 58)) (v := ?_) (a' := ?_) #[true, true, true, true, true, true, true, true, true, true, false, false, false, false, false, false, false, false] rfl rfl (any_of HT_.out (by kernel_rfl)) (fun _ _ _ h => h) (Or.inl ⟨by rfl, ?_⟩) ?_ ?_
              rotate_left
              · intro w'
                go_simp
                with_reducible rfl
              rotate_left
              · simp only [Act.put, List.setIfInBounds_toArray, List.set_cons_zero, List.set_cons_succ, i64_w, i32_w]
                rfl
              refine pure_ (i := 10) (N := (some 59)) (v := ?_) (a' := ?_) #[true, true, true, true, true, true, true, true, true, true, true, false, false, false, false, false, false, false] rfl rfl (any_of HT_.out (by kernel_rfl)) (fun _ _ _ h => h) (Or.inl ⟨by rfl, ?_⟩) ?_ ?_
              rotate_left
              · intro w'
                go_simp
                with_reducible rfl
              rotate_left
              · simp only [Act.put, List.setIfInBounds_toArray, List.set_cons_zero, List.set_cons_succ, i64_w, i32_w]
                rfl
              refine pure_ (i := 13) (N := (some 62)) (v := ?_) (a' := ?_) #[true, true, true, true, true, true, true, true, true, true, true, false, false, true, false, false, false, false] rfl rfl (any_of HT_.out (by kernel_rfl)) (fun _ _ _ h => h) (Or.inl ⟨by rfl, ?_⟩) ?_ ?_
              rotate_left
              · intro w'
                go_simp
                with_reducible rfl
              rotate_left
              · simp only [Act.put, List.setIfInBounds_toArray, List.set_cons_zero, List.set_cons_succ, i64_w, i32_w]
                rfl
              refine take_ (i := 11) (N := (some 60)) (v := ?_) (a' := ?_) #[true, true, true, true, true, true, true, true, true, true, true, true, false, true, false, false, false, false] rfl rfl (take_ofW HT_.out HW_.out (by kernel_rfl)) (fun _ _ _ h => h) (Or.inl ⟨by rfl, ?_⟩) hHeld ?_ ?_
              rotate_left
              · rintro w' ⟨s0, s1, s2, s3, s4, s5⟩
                go_simp
                with_reducible rfl
              rotate_left
              · simp only [Act.put, List.setIfInBounds_toArray, List.set_cons_zero, List.set_cons_succ, i64_w, i32_w]
                rfl
              refine one_ (i := 12) (N := (some 61)) #[true, true, true, true, true, true, true, true, true, true, true, true, true, true, false, false, false, false] rfl rfl (one_of HT_.out (by kernel_rfl)) (by decide) (fun K hK => ?_)
              refine goes_ Tryd.func32 (by kernel_rfl) rfl #[.agg #[.int .i64 (piB a).1, .int .i64 (piB b).1, .string c, .slice none 0 0, .int .u64 (puB f).1]] (by rfl) rfl rfl (by (try simp only [List.map_toArray, List.map_cons, List.map_nil]); first | done | rfl) ?_
              refine (line_calls (⟨(piB a).1, (piB b).1, c, [], (puB f).1⟩ : S30) none 0 _ (Kd.C_below HCy.out HQ1.out) HLy.out ⟨HM.out, by exact Int.natCast_nonneg _, by have h := puB_lt f; show ((puB f).1 : Int) < 18446744073709551616; omega⟩ (HE1.out.tab.below (HQy.out.trans (HQ1.out.mono HQy.out.size)))).mono ?_
              rintro e V2 ⟨rfl, hb⟩
              refine ⟨_, rfl, ?_⟩
              have HQ2 := Aside0.mk (HQ1.out.trans (hb.mono HQ1.out.size))
              clear hb
              refine hK.out _ _ ⟨pw_cell_below HQ2.out q0, pw_cell_below HQ2.out q1, pw_cell_below HQ2.out q2, pw_cell_below HQ2.out q3, pw_cell_below HQ2.out q4, pw_cell_below HQ2.out o0⟩ (fun hHeld => ?_)
              clear hK K
              refine norm_ (a' := ?_) ?_ ?_
              rotate_left
              · show Act.put _ (some 61) _ = _
                simp only [Act.put, List.setIfInBounds_toArray, List.set_cons_zero, List.set_cons_succ, i64_w, i32_w]
                rfl
              refine pure_ (i := 14) (N := (some 63)) (v := ?_) (a' := ?_) #[true, true, true, true, true, true, true, true, true, true, true, true, true, true, true, false, false, false] rfl rfl (any_of HT_.out (by kernel_rfl)) (fun _ _ _ h => h) (Or.inl ⟨by rfl, ?_⟩) ?_ ?_
              rotate_left
              · intro w'
                go_simp
                with_reducible rfl
              rotate_left
              · simp only [Act.put, List.setIfInBounds_toArray, List.set_cons_zero, List.set_cons_succ, i64_w, i32_w]
                rfl
              refine pure_ (i := 15) (N := (some 64)) (v := ?_) (a' := ?_) #[true, true, true, true, true, true, true, true, true, true, true, true, true, true, true, true, false, false] rfl rfl (any_of HT_.out (by kernel_rfl)) (fun _ _ _ h => h) (Or.inl ⟨by rfl, ?_⟩) ?_ ?_
              rotate_left
              · intro w'
                go_simp
                with_reducible rfl
              rotate_left
              · simp only [Act.put, List.setIfInBounds_toArray, List.set_cons_zero, List.set_cons_succ, i64_w, i32_w]
                rfl
              refine one_ (i := 16) (N := none) #[true, true, true, true, true, true, true, true, true, true, true, true, true, true, true, true, true, false] rfl rfl (one_of HT_.out (by kernel_rfl)) (by decide) (fun K hK => ?_)
              have B2w := Aside0.mk (blk_below B2y.out HQ2.out)
              obtain ⟨z0, z1, z2, z3, z4, zs⟩ := five B2w.out
              have fz := blk_frozen B2w.out
              refine skip_ (w1 := set5 V2 w.heap.size (.int .i64 (piB a).1) (.int .i64 (piB b).1) (.string c) (.slice none 0 0) (.int .u64 (puB f).1)) (by rfl) rfl (by first | (go_simp; done) | (go_simp; rfl)) ?_
              clear z0 z1 z2 z3 z4 zs fz
              have Fz := Aside0.mk (set5_fr V2 w.heap.size (.int .i64 (piB a).1) (.int .i64 (piB b).1) (.string c) (.slice none 0 0) (.int .u64 (puB f).1))
              have Bz := Aside0.mk (set5_blk B2w.out (.int .i64 (piB a).1) (.int .i64 (piB b).1) (.string c) (.slice none 0 0) (.int .u64 (puB f).1))
              refine hK.out _ _ ⟨Fz.out.cell (pw_cell_below HQ2.out q0) (fun hj => by have hj' : b7 = w.heap.size := hj; have h1 := HN.out; have h2 := HSz.out; omega), Fz.out.cell (pw_cell_below HQ2.out q1) (fun hj => by have hj' : b7 = w.heap.size := hj; have h1 := HN.out; have h2 := HSz.out; omega), Fz.out.cell (pw_cell_below HQ2.out q2) (fun hj => by have hj' : b7 = w.heap.size := hj; have h1 := HN.out; have h2 := HSz.out; omega), Fz.out.cell (pw_cell_below HQ2.out q3) (fun hj => by have hj' : b7 = w.heap.size := hj; have h1 := HN.out; have h2 := HSz.out; omega), Fz.out.cell (pw_cell_below HQ2.out q4) (fun hj => by have hj' : b7 = w.heap.size := hj; have h1 := HN.out; have h2 := HSz.out; omega), Fz.out.cell (pw_cell_below HQ2.out o0) (fun hj => by have hj' : W1.heap.size = w.heap.size := hj; have h2 := HSz.out; omega)⟩ (fun hHeld => ?_)
              clear hK K
              refine pure_ (i := 17) (N := (some 3)) (v := ?_) (a' := ?_) #[true, true, true, true, true, true, true, true, true, true, true, true, true, true, true, true, true, true] rfl rfl (any_of HT_.out (by kernel_rfl)) (fun _ _ _ h => h) (Or.inl ⟨by rfl, ?_⟩) ?_ ?_
              rotate_left
              · intro w'
                go_simp
                with_reducible rfl
              rotate_left
              · simp only [Act.put, List.setIfInBounds_toArray, List.set_cons_zero, List.set_cons_succ, i64_w, i32_w]
                rfl
              refine done_ (done_of HT_.out (by kernel_rfl)) ?_
              go_wp2
              refine bodyPost_ret (results_ct results37 _ _ w.heap.size 33 _ (0, 0) _ rfl Bz.out Tryd.underlying33 rfl (by kernel_rfl)) rfl ?_
              rw [HP.out]
              refine ⟨⟨.slice none 0 0, ?_, ?_⟩, ?_⟩
              · exact ent_fin (by show ((((piB a).2 && (piB b).2) && (puB f).2) && (mayE (piB a).1 (piB b).1 c [] && _)) = _; rw [HO.out, HU.out, HM.out]; exact str_beq _ _)
              · exact R_any (R_fr (Kd.R_below HRy.out HQ2.out) Fz.out (fun j h1 h2 h3 hj => h3 hj))
              · exact (HB1.out.trans (HQy.out.mono HB1.out.size)).trans ((HQ2.out.mono (Nat.le_trans HB1.out.size HQy.out.size)).trans (Fz.out.toBelow (Nat.le_trans HB1.out.size (Nat.le_trans HQy.out.size HQ2.out.size)) (fun j hj => Nat.le_of_eq hj.symm)))
      · have HP : Aside0 (entP s = ent5x s a b c (partsB 44 d) f) := ⟨by unfold entP; rw [← hw0.out]; show ent5 s a b c d f = _; unfold ent5; rw [if_neg hd]; rfl⟩
        have hdt : (d.toList == [46]) = false := by
          have h : d.toList ≠ [46] := fun h => hd (ba_ext (by rw [← ByteArray.toList_eq, h]))
          exact beq_eq_false_iff_ne.2 h
        clear hd
        go_wp2_with fail
        refine (split_calls 44 d _ (by have := HSZ.out d (by simp); omega) (HE1.out.below HQz.out)).mono ?_
        rintro e w1' ⟨rfl, rfl⟩
        have B7s := Aside0.mk (blk_alloc B7z.out (.cells ((partsB 44 d).map Value.string).toArray 9))
        have hba := Aside0.mk (below_alloc (Below.refl wc.heap.size wc) (.cells ((partsB 44 d).map Value.string).toArray 9))
        have hpl : (partsB 44 d).length ≤ 1000000000000 := by rw [partsB_len]; have h1 := Lib.countB_le ⟨#[44]⟩ (Nat.le_refl 1) d.size d (Nat.le_refl _); have h2 := HSZ.out d (by simp); omega
        have hbw : w.heap.size < wc.heap.size := by have h1 := HSz.out; have h2 := HQz.out.size; omega
        have HRs := Aside0.mk (parts_row wc wc.heap.size (partsB 44 d) (Nat.le_refl _) hpl)
        obtain ⟨Wa, ea⟩ : ∃ Wa, Wa = wc.alloc (.cells ((partsB 44 d).map Value.string).toArray 9) := ⟨_, rfl⟩
        rw [← ea] at B7s HRs hba ⊢
        clear ea
        clear hpl q0 q1 q2 q3 q4 qs fq
        obtain ⟨q0, q1, q2, q3, q4, qs⟩ := five B7s.out
        have fq := blk_frozen B7s.out
        have F3 := Aside0.mk ((Fr.refl (one b7) Wa).setCell (p := ⟨b7, 3, none⟩) (.inl rfl) (.slice (some ⟨wc.heap.size, 0, none⟩) (partsB 44 d).length (partsB 44 d).length))
        have HQs := Aside0.mk (HQz.out.trans (hba.out.mono HQz.out.size))
        have hb7 : b7 < wc.heap.size := blk_lt B7z.out
        have HQp := Aside0.mk (HQs.out.trans (F3.out.toBelow (B := W1.heap.size) HQs.out.size (fun j hj => by have hj' : j = b7 := hj; have := HN.out; omega)))
        have B5p := Aside0.mk (F3.out.blk (blk_below B5z.out hba.out) (fun hj => by have hj' : W1.heap.size = b7 := hj; have := HN.out; omega))
        have B7p := Aside0.mk (blk_set B7s.out 3 (.slice (some ⟨wc.heap.size, 0, none⟩) (partsB 44 d).length (partsB 44 d).length))
        have HRp : Aside0 (Kd.string.R 9 (Wa.setCell ⟨b7, 3, none⟩ (.slice (some ⟨wc.heap.size, 0, none⟩) (partsB 44 d).length (partsB 44 d).length)) w.heap.size (fun k => k ≠ w.heap.size ∧ k ≠ b7) (.slice (some ⟨wc.heap.size, 0, none⟩) (partsB 44 d).length (partsB 44 d).length) (partsB 44 d)) :=
          ⟨Kd.R_lower (R_fr (Kd.R_mono (Kd.R_bound HRs.out) (fun k hk => ⟨by have := hk.2.1; omega, by have := hk.2.1; omega⟩)) F3.out (fun j _ _ h3 hj => h3.2 hj)) (Nat.le_of_lt hbw)⟩
        have r4p := F3.out.cell (pw_cell_below hba.out r4c) (fun hj => by have hj' : w.heap.size + 1 = b7 := hj; have h1 := HN.out; have h2 := HSz.out; omega)
        clear F3 HQs
        go_wp2_with fail
        clear q0 q1 q2 q3 q4 qs fq
        obtain ⟨Wp, ep⟩ : ∃ Wp, Wp = Wa.setCell ⟨b7, 3, none⟩ (.slice (some ⟨wc.heap.size, 0, none⟩) (partsB 44 d).length (partsB 44 d).length) := ⟨_, rfl⟩
        rw [← ep] at HQp B5p B7p HRp ⊢
        clear ep
        refine (parseU_calls f (by have := HSZ.out f (by simp); omega) _ (HE1.out.below HQp.out)).mono ?_
        rintro e V ⟨⟨ev, rfl, hev⟩, hb⟩
        have HQv := Aside0.mk (HQp.out.trans (hb.mono HQp.out.size))
        have B5v := Aside0.mk (blk_below B5p.out hb)
        have B7v := Aside0.mk (blk_below B7p.out hb)
        have HRv := Aside0.mk (Kd.R_below HRp.out hb)
        clear hb
        try clear q0 q1 q2 q3 q4 qs fq
        obtain ⟨q0, q1, q2, q3, q4, qs⟩ := five B7v.out
        have fq := blk_frozen B7v.out
        cases hu : (puB f).2 with
        | false =>
          have HU := Aside0.mk hu
          rw [hu] at hev
          clear hu
          obtain ⟨N, rfl⟩ : ∃ N : Nat, ev = .iface 93 (.pointer (some ⟨N, 0, none⟩)) := hev
          go_wp2_with fail
          clear q0 q1 q2 q3 q4 qs fq
          have F7 := Aside0.mk ((Fr.refl (one b7) V).setCell (p := ⟨b7, 4, none⟩) (.inl rfl) (.int .u64 (puB f).1))
          have B7y := Aside0.mk (blk_set B7v.out 4 (.int .u64 (puB f).1))
          have HQy := Aside0.mk (HQv.out.trans (F7.out.toBelow (B := W1.heap.size) HQv.out.size (fun j hj => by have hj' : j = b7 := hj; have := HN.out; omega)))
          have B5y := Aside0.mk (F7.out.blk B5v.out (fun hj => by have hj' : W1.heap.size = b7 := hj; have := HN.out; omega))
          have B2y := Aside0.mk (blk_below B2.out HQy.out)
          have HRy : Aside0 (Kd.string.R 9 (V.setCell ⟨b7, 4, none⟩ (.int .u64 (puB f).1)) w.heap.size (fun k => k ≠ w.heap.size) (.slice (some ⟨wc.heap.size, 0, none⟩) (partsB 44 d).length (partsB 44 d).length) (partsB 44 d)) := ⟨R_fr HRv.out F7.out (fun j _ _ h3 hj => h3.2 hj) |> fun h => Kd.R_mono h (fun _ hk => hk.1)⟩
          obtain ⟨Wy, ey⟩ : ∃ Wy, Wy = V.setCell ⟨b7, 4, none⟩ (.int .u64 (puB f).1) := ⟨_, rfl⟩
          rw [← ey] at B7y HQy B5y B2y HRy ⊢
          clear ey F7
          have HCy : Aside0 (Kd.C Kd.string Wy (some ⟨wc.heap.size, 0, none⟩) (partsB 44 d).length (partsB 44 d)) := ⟨by obtain ⟨A', c', e', _, hC⟩ := Kd.R_reads HRy.out; cases e'; exact hC⟩
          have HLy : Aside0 ((partsB 44 d).length ≤ (partsB 44 d).length) := ⟨by obtain ⟨A', c', e', hl', _⟩ := Kd.R_reads HRy.out; cases e'; exact hl'⟩
          obtain ⟨q0, q1, q2, q3, q4, qs⟩ := five B7y.out
          have o0 := one_get B5y.out
          have HQ0 := Aside0.mk (below_drew (Below.refl Wy.heap.size Wy))
          cases ho : ((true && (piB a).2) && (piB b).2) with
          | false =>
            rw [ho] at o0
            have HO : Aside0 (((piB a).2 && (piB b).2) = false) := ⟨by simpa using ho⟩
            clear ho
            refine start_ (n := 18) (S := fun W => W.cell? ⟨b7, 0, none⟩ = some (.int .i64 (piB a).1) ∧ W.cell? ⟨b7, 1, none⟩ = some (.int .i64 (piB b).1) ∧ W.cell? ⟨b7, 2, none⟩ = some (.string c) ∧ W.cell? ⟨b7, 3, none⟩ = some (.slice (some ⟨wc.heap.size, 0, none⟩) (partsB 44 d).length (partsB 44 d).length) ∧ W.cell? ⟨b7, 4, none⟩ = some (.int .u64 (puB f).1) ∧ W.cell? ⟨W1.heap.size, 0, none⟩ = some (.bool false)) (ds := []) #[false, false, false, false, false, false, false, false, false, false, false, false, false, false, false, false, false, false] (by kernel_rfl) rfl rfl ⟨pw_cell_below HQ0.out q0, pw_cell_below HQ0.out q1, pw_cell_below HQ0.out q2, pw_cell_below HQ0.out q3, pw_cell_below HQ0.out q4, pw_cell_below HQ0.out o0⟩ (fun hHeld => ?_)
            refine with_tabW reg37_11.tab reg37_11.bits (fun HT_ HW_ => ?_)
            refine take_ (i := 0) (N := (some 49)) (v := ?_) (a' := ?_) #[true, false, false, false, false, false, false, false, false, false, false, false, false, false, false, false, false, false] rfl rfl (take_ofW HT_.out HW_.out (by kernel_rfl)) (fun _ _ _ h => h) (Or.inl ⟨by rfl, ?_⟩) hHeld ?_ ?_
            rotate_left
            · rintro w' ⟨s0, s1, s2, s3, s4, s5⟩
              go_simp
              with_reducible rfl
            rotate_left
            · simp only [Act.put, List.setIfInBounds_toArray, List.set_cons_zero, List.set_cons_succ, i64_w, i32_w]
              rfl
            refine take_ (i := 1) (N := (some 50)) (v := ?_) (a' := ?_) #[true, true, false, false, false, false, false, false, false, false, false, false, false, false, false, false, false, false] rfl rfl (take_ofW HT_.out HW_.out (by kernel_rfl)) (fun _ _ _ h => h) (Or.inl ⟨by rfl, ?_⟩) hHeld ?_ ?_
            rotate_left
            · rintro w' ⟨s0, s1, s2, s3, s4, s5⟩
              go_simp
              with_reducible rfl
            rotate_left
            · simp only [Act.put, List.setIfInBounds_toArray, List.set_cons_zero, List.set_cons_succ, i64_w, i32_w]
              rfl
            refine pure_ (i := 2) (N := (some 51)) (v := ?_) (a' := ?_) #[true, true, true, false, false, false, false, false, false, false, false, false, false, false, false, false, false, false] rfl rfl (any_of HT_.out (by kernel_rfl)) (fun _ _ _ h => h) (Or.inl ⟨by rfl, ?_⟩) ?_ ?_
            rotate_left
            · intro w'
              go_simp
              with_reducible rfl
            rotate_left
            · simp only [Act.put, List.setIfInBounds_toArray, List.set_cons_zero, List.set_cons_succ, i64_w, i32_w]
              rfl
            refine pure_ (i := 3) (N := (some 52)) (v := undef) (a' := ?_) #[true, true, true, true, false, false, false, false, false, false, false, false, false, false, false, false, false, false] rfl rfl (any_of HT_.out (by kernel_rfl)) (fun _ _ _ h => h) (Or.inr ⟨by rfl, rfl⟩) ?_ ?_
            rotate_left
            · simp only [Act.put, List.setIfInBounds_toArray, List.set_cons_zero, List.set_cons_succ, i64_w, i32_w]
              rfl
            refine pure_ (i := 4) (N := (some 53)) (v := undef) (a' := ?_) #[true, true, true, true, true, false, false, false, false, false, false, false, false, false, false, false, false, false] rfl rfl (any_of HT_.out (by kernel_rfl)) (fun _ _ _ h => h) (Or.inr ⟨by rfl, rfl⟩) ?_ ?_
            rotate_left
            · simp only [Act.put, List.setIfInBounds_toArray, List.set_cons_zero, List.set_cons_succ, i64_w, i32_w]
              rfl
            refine pure_ (i := 5) (N := (some 54)) (v := ?_) (a' := ?_) #[true, true, true, true, true, true, false, false, false, false, false, false, false, false, false, false, false, false] rfl rfl (any_of HT_.out (by kernel_rfl)) (fun _ _ _ h => h) (Or.inl ⟨by rfl, ?_⟩) ?_ ?_
            rotate_left
            · intro w'
              go_simp
              with_reducible rfl
            rotate_left
            · simp only [Act.put, List.setIfInBounds_toArray, List.set_cons_zero, List.set_cons_succ, i64_w, i32_w]
              rfl
            refine pure_ (i := 6) (N := (some 55)) (v := ?_) (a' := ?_) #[true, true, true, true, true, true, true, false, false, false, false, false, false, false, false, false, false, false] rfl rfl (any_of HT_.out (by kernel_rfl)) (fun _ _ _ h => h) (Or.inl ⟨by rfl, ?_⟩) ?_ ?_
            rotate_left
            · intro w'
              go_simp
              with_reducible rfl
            rotate_left
            · simp only [Act.put, List.setIfInBounds_toArray, List.set_cons_zero, List.set_cons_succ, i64_w, i32_w]
              rfl
            refine pure_ (i := 7) (N := (some 56)) (v := undef) (a' := ?_) #[true, true, true, true, true, true, true, true, false, false, false, false, false, false, false, false, false, false] rfl rfl (any_of HT_.out (by kernel_rfl)) (fun _ _ _ h => h) (Or.inr ⟨by rfl, rfl⟩) ?_ ?_
            rotate_left
            · simp only [Act.put, List.setIfInBounds_toArray, List.set_cons_zero, List.set_cons_succ, i64_w, i32_w]
              rfl
            refine pure_ (i := 8) (N := (some 57)) (v := undef) (a' := ?_) #[true, true, true, true, true, true, true, true, true, false, false, false, false, false, false, false, false, false] rfl rfl (any_of HT_.out (by kernel_rfl)) (fun _ _ _ h => h) (Or.inr ⟨by rfl, rfl⟩) ?_ ?_
            rotate_left
            · simp only [Act.put, List.setIfInBounds_toArray, List.set_cons_zero, List.set_cons_succ, i64_w, i32_w]
              rfl
            refine pure_ (i := 9) (N := (some 58)) (v := ?_) (a' := ?_) #[true, true, true, true, true, true, true, true, true, true, false, false, false, false, false, false, false, false] rfl rfl (any_of HT_.out (by kernel_rfl)) (fun _ _ _ h => h) (Or.inl ⟨by rfl, ?_⟩) ?_ ?_
            rotate_left
            · intro w'
              go_simp
              with_reducible rfl
            rotate_left
            · simp only [Act.put, List.setIfInBounds_toArray, List.set_cons_zero, List.set_cons_succ, i64_w, i32_w]
              rfl
            refine pure_ (i := 10) (N := (some 59)) (v := ?_) (a' := ?_) #[true, true, true, true, true, true, true, true, true, true, true, false, false, false, false, false, false, false] rfl rfl (any_of HT_.out (by kernel_rfl)) (fun _ _ _ h => h) (Or.inl ⟨by rfl, ?_⟩) ?_ ?_
            rotate_left
            · intro w'
              go_simp
              with_reducible rfl
            rotate_left
            · simp only [Act.put, List.setIfInBounds_toArray, List.set_cons_zero, List.set_cons_succ, i64_w, i32_w]
              rfl
            refine pure_ (i := 11) (N := (some 60)) (v := undef) (a' := ?_) #[true, true, true, true, true, true, true, true, true, true, true, true, false, false, false, false, false, false] rfl rfl (any_of HT_.out (by kernel_rfl)) (fun _ _ _ h => h) (Or.inr ⟨by rfl, rfl⟩) ?_ ?_
            rotate_left
            · simp only [Act.put, List.setIfInBounds_toArray, List.set_cons_zero, List.set_cons_succ, i64_w, i32_w]
              rfl
            refine pure_ (i := 12) (N := (some 61)) (v := undef) (a' := ?_) #[true, true, true, true, true, true, true, true, true, true, true, true, true, false, false, false, false, false] rfl rfl (any_of HT_.out (by kernel_rfl)) (fun _ _ _ h => h) (Or.inr ⟨by rfl, rfl⟩) ?_ ?_
            rotate_left
            · simp only [Act.put, List.setIfInBounds_toArray, List.set_cons_zero, List.set_cons_succ, i64_w, i32_w]
              rfl
            refine pure_ (i := 13) (N := (some 62)) (v := undef) (a' := ?_) #[true, true, true, true, true, true, true, true, true, true, true, true, true, true, false, false, false, false] rfl rfl (any_of HT_.out (by kernel_rfl)) (fun _ _ _ h => h) (Or.inr ⟨by rfl, rfl⟩) ?_ ?_
            rotate_left
            · simp only [Act.put, List.setIfInBounds_toArray, List.set_cons_zero, List.set_cons_succ, i64_w, i32_w]
              rfl
            refine pure_ (i := 14) (N := (some 63)) (v := undef) (a' := ?_) #[true, true, true, true, true, true, true, true, true, true, true, true, true, true, true, false, false, false] rfl rfl (any_of HT_.out (by kernel_rfl)) (fun _ _ _ h => h) (Or.inr ⟨by rfl, rfl⟩) ?_ ?_
            rotate_left
            · simp only [Act.put, List.setIfInBounds_toArray, List.set_cons_zero, List.set_cons_succ, i64_w, i32_w]
              rfl
            refine pure_ (i := 15) (N := (some 64)) (v := ?_) (a' := ?_) #[true, true, true, true, true, true, true, true, true, true, true, true, true, true, true, true, false, false] rfl rfl (any_of HT_.out (by kernel_rfl)) (fun _ _ _ h => h) (Or.inl ⟨by rfl, ?_⟩) ?_ ?_
            rotate_left
            · intro w'
              go_simp
              with_reducible rfl
            rotate_left
            · simp only [Act.put, List.setIfInBounds_toArray, List.set_cons_zero, List.set_cons_succ, i64_w, i32_w]
              rfl
            refine one_ (i := 16) (N := none) #[true, true, true, true, true, true, true, true, true, true, true, true, true, true, true, true, true, false] rfl rfl (one_of HT_.out (by kernel_rfl)) (by decide) (fun K hK => ?_)
            have B2w := Aside0.mk (blk_below B2y.out HQ0.out)
            obtain ⟨z0, z1, z2, z3, z4, zs⟩ := five B2y.out
            have fz := blk_frozen B2y.out
            refine skip_ (w1 := set5 Wy.drew w.heap.size (.int .i64 (piB a).1) (.int .i64 (piB b).1) (.string c) (.slice (some ⟨wc.heap.size, 0, none⟩) (partsB 44 d).length (partsB 44 d).length) (.int .u64 (puB f).1)) (by rfl) rfl (by first | (go_simp; done) | (go_simp; rfl)) ?_
            clear z0 z1 z2 z3 z4 zs fz
            have Fz := Aside0.mk (set5_fr Wy.drew w.heap.size (.int .i64 (piB a).1) (.int .i64 (piB b).1) (.string c) (.slice (some ⟨wc.heap.size, 0, none⟩) (partsB 44 d).length (partsB 44 d).length) (.int .u64 (puB f).1))
            have Bz := Aside0.mk (set5_blk B2w.out (.int .i64 (piB a).1) (.int .i64 (piB b).1) (.string c) (.slice (some ⟨wc.heap.size, 0, none⟩) (partsB 44 d).length (partsB 44 d).length) (.int .u64 (puB f).1))
            refine hK.out _ _ ⟨Fz.out.cell (pw_cell_below HQ0.out q0) (fun hj => by have hj' : b7 = w.heap.size := hj; have h1 := HN.out; have h2 := HSz.out; omega), Fz.out.cell (pw_cell_below HQ0.out q1) (fun hj => by have hj' : b7 = w.heap.size := hj; have h1 := HN.out; have h2 := HSz.out; omega), Fz.out.cell (pw_cell_below HQ0.out q2) (fun hj => by have hj' : b7 = w.heap.size := hj; have h1 := HN.out; have h2 := HSz.out; omega), Fz.out.cell (pw_cell_below HQ0.out q3) (fun hj => by have hj' : b7 = w.heap.size := hj; have h1 := HN.out; have h2 := HSz.out; omega), Fz.out.cell (pw_cell_below HQ0.out q4) (fun hj => by have hj' : b7 = w.heap.size := hj; have h1 := HN.out; have h2 := HSz.out; omega), Fz.out.cell (pw_cell_below HQ0.out o0) (fun hj => by have hj' : W1.heap.size = w.heap.size := hj; have h2 := HSz.out; omega)⟩ (fun hHeld => ?_)
            clear hK K
            refine pure_ (i := 17) (N := (some 3)) (v := ?_) (a' := ?_) #[true, true, true, true, true, true, true, true, true, true, true, true, true, true, true, true, true, true] rfl rfl (any_of HT_.out (by kernel_rfl)) (fun _ _ _ h => h) (Or.inl ⟨by rfl, ?_⟩) ?_ ?_
            rotate_left
            · intro w'
              go_simp
              with_reducible rfl
            rotate_left
            · simp only [Act.put, List.setIfInBounds_toArray, List.set_cons_zero, List.set_cons_succ, i64_w, i32_w]
              rfl
            refine done_ (done_of HT_.out (by kernel_rfl)) ?_
            go_wp2
            refine bodyPost_ret (results_ct results37 _ _ w.heap.size 33 _ (0, 0) _ rfl Bz.out Tryd.underlying33 rfl (by kernel_rfl)) rfl ?_
            rw [HP.out]
            refine ⟨⟨.slice (some ⟨wc.heap.size, 0, none⟩) (partsB 44 d).length (partsB 44 d).length, ?_, ?_⟩, ?_⟩
            · exact ent_fin (by show ((((piB a).2 && (piB b).2) && (puB f).2) && _) = false; rw [HO.out]; rfl)
            · exact R_any (R_fr (Kd.R_below HRy.out HQ0.out) Fz.out (fun j h1 h2 h3 hj => h3 hj))
            · exact (HB1.out.trans (HQy.out.mono HB1.out.size)).trans ((HQ0.out.mono (Nat.le_trans HB1.out.size HQy.out.size)).trans (Fz.out.toBelow (Nat.le_trans HB1.out.size (Nat.le_trans HQy.out.size HQ0.out.size)) (fun j hj => Nat.le_of_eq hj.symm)))
          | true =>
            rw [ho] at o0
            have HO : Aside0 (((piB a).2 && (piB b).2) = true) := ⟨by simpa using ho⟩
            clear ho
            refine start_ (n := 18) (S := fun W => W.cell? ⟨b7, 0, none⟩ = some (.int .i64 (piB a).1) ∧ W.cell? ⟨b7, 1, none⟩ = some (.int .i64 (piB b).1) ∧ W.cell? ⟨b7, 2, none⟩ = some (.string c) ∧ W.cell? ⟨b7, 3, none⟩ = some (.slice (some ⟨wc.heap.size, 0, none⟩) (partsB 44 d).length (partsB 44 d).length) ∧ W.cell? ⟨b7, 4, none⟩ = some (.int .u64 (puB f).1) ∧ W.cell? ⟨W1.heap.size, 0, none⟩ = some (.bool true)) (ds := []) #[false, false, false, false, false, false, false, false, false, false, false, false, false, false, false, false, false, false] (by kernel_rfl) rfl rfl ⟨pw_cell_below HQ0.out q0, pw_cell_below HQ0.out q1, pw_cell_below HQ0.out q2, pw_cell_below HQ0.out q3, pw_cell_below HQ0.out q4, pw_cell_below HQ0.out o0⟩ (fun hHeld => ?_)
            refine with_tabW reg37_11.tab reg37_11.bits (fun HT_ HW_ => ?_)
            refine take_ (i := 0) (N := (some 49)) (v := ?_) (a' := ?_) #[true, false, false, false, false, false, false, false, false, false, false, false, false, false, false, false, false, false] rfl rfl (take_ofW HT_.out HW_.out (by kernel_rfl)) (fun _ _ _ h => h) (Or.inl ⟨by rfl, ?_⟩) hHeld ?_ ?_
            rotate_left
            · rintro w' ⟨s0, s1, s2, s3, s4, s5⟩
              go_simp
              with_reducible rfl
            rotate_left
            · simp only [Act.put, List.setIfInBounds_toArray, List.set_cons_zero, List.set_cons_succ, i64_w, i32_w]
              rfl
            refine take_ (i := 1) (N := (some 50)) (v := ?_) (a' := ?_) #[true, true, false, false, false, false, false, false, false, false, false, false, false, false, false, false, false, false] rfl rfl (take_ofW HT_.out HW_.out (by kernel_rfl)) (fun _ _ _ h => h) (Or.inl ⟨by rfl, ?_⟩) hHeld ?_ ?_
            rotate_left
            · rintro w' ⟨s0, s1, s2, s3, s4, s5⟩
              go_simp
              with_reducible rfl
            rotate_left
            · simp only [Act.put, List.setIfInBounds_toArray, List.set_cons_zero, List.set_cons_succ, i64_w, i32_w]
              rfl
            refine pure_ (i := 2) (N := (some 51)) (v := ?_) (a' := ?_) #[true, true, true, false, false, false, false, false, false, false, false, false, false, false, false, false, false, false] rfl rfl (any_of HT_.out (by kernel_rfl)) (fun _ _ _ h => h) (Or.inl ⟨by rfl, ?_⟩) ?_ ?_
            rotate_left
            · intro w'
              go_simp
              with_reducible rfl
            rotate_left
            · simp only [Act.put, List.setIfInBounds_toArray, List.set_cons_zero, List.set_cons_succ, i64_w, i32_w]
              rfl
            refine pure_ (i := 3) (N := (some 52)) (v := ?_) (a' := ?_) #[true, true, true, true, false, false, false, false, false, false, false, false, false, false, false, false, false, false] rfl rfl (any_of HT_.out (by kernel_rfl)) (fun _ _ _ h => h) (Or.inl ⟨by rfl, ?_⟩) ?_ ?_
            rotate_left
            · intro w'
              go_simp
              with_reducible rfl
            rotate_left
            · simp only [Act.put, List.setIfInBounds_toArray, List.set_cons_zero, List.set_cons_succ, i64_w, i32_w]
              rfl
            refine pure_ (i := 4) (N := (some 53)) (v := ?_) (a' := ?_) #[true, true, true, true, true, false, false, false, false, false, false, false, false, false, false, false, false, false] rfl rfl (any_of HT_.out (by kernel_rfl)) (fun _ _ _ h => h) (Or.inl ⟨by rfl, ?_⟩) ?_ ?_
            rotate_left
            · intro w'
              go_simp
              with_reducible rfl
            rotate_left
            · simp only [Act.put, List.setIfInBounds_toArray, List.set_cons_zero, List.set_cons_succ, i64_w, i32_w]
              rfl
            refine pure_ (i := 5) (N := (some 54)) (v := ?_) (a' := ?_) #[true, true, true, true, true, true, false, false, false, false, false, false, false, false, false, false, false, false] rfl rfl (any_of HT_.out (by kernel_rfl)) (fun _ _ _ h => h) (Or.inl ⟨by rfl, ?_⟩) ?_ ?_
            rotate_left
            · intro w'
              go_simp
              with_reducible rfl
            rotate_left
            · simp only [Act.put, List.setIfInBounds_toArray, List.set_cons_zero, List.set_cons_succ, i64_w, i32_w]
              rfl
            refine pure_ (i := 6) (N := (some 55)) (v := ?_) (a' := ?_) #[true, true, true, true, true, true, true, false, false, false, false, false, false, false, false, false, false, false] rfl rfl (any_of HT_.out (by kernel_rfl)) (fun _ _ _ h => h) (Or.inl ⟨by rfl, ?_⟩) ?_ ?_
            rotate_left
            · intro w'
              go_simp
              with_reducible rfl
            rotate_left
            · simp only [Act.put, List.setIfInBounds_toArray, List.set_cons_zero, List.set_cons_succ, i64_w, i32_w]
              rfl
            refine pure_ (i := 7) (N := (some 56)) (v := undef) (a' := ?_) #[true, true, true, true, true, true, true, true, false, false, false, false, false, false, false, false, false, false] rfl rfl (any_of HT_.out (by kernel_rfl)) (fun _ _ _ h => h) (Or.inr ⟨by rfl, rfl⟩) ?_ ?_
            rotate_left
            · simp only [Act.put, List.setIfInBounds_toArray, List.set_cons_zero, List.set_cons_succ, i64_w, i32_w]
              rfl
            refine pure_ (i := 8) (N := (some 57)) (v := undef) (a' := ?_) #[true, true, true, true, true, true, true, true, true, false, false, false, false, false, false, false, false, false] rfl rfl (any_of HT_.out (by kernel_rfl)) (fun _ _ _ h => h) (Or.inr ⟨by rfl, rfl⟩) ?_ ?_
            rotate_left
            · simp only [Act.put, List.setIfInBounds_toArray, List.set_cons_zero, List.set_cons_succ, i64_w, i32_w]
              rfl
            refine pure_ (i := 9) (N := (some 58)) (v := ?_) (a' := ?_) #[true, true, true, true, true, true, true, true, true, true, false, false, false, false, false, false, false, false] rfl rfl (any_of HT_.out (by kernel_rfl)) (fun _ _ _ h => h) (Or.inl ⟨by rfl, ?_⟩) ?_ ?_
            rotate_left
            · intro w'
              go_simp
              with_reducible rfl
            rotate_left
            · simp only [Act.put, List.setIfInBounds_toArray, List.set_cons_zero, List.set_cons_succ, i64_w, i32_w]
              rfl
            refine pure_ (i := 10) (N := (some 59)) (v := ?_) (a' := ?_) #[true, true, true, true, true, true, true, true, true, true, true, false, false, false, false, false, false, false] rfl rfl (any_of HT_.out (by kernel_rfl)) (fun _ _ _ h => h) (Or.inl ⟨by rfl, ?_⟩) ?_ ?_
            rotate_left
            · intro w'
              go_simp
              with_reducible rfl
            rotate_left
            · simp only [Act.put, List.setIfInBounds_toArray, List.set_cons_zero, List.set_cons_succ, i64_w, i32_w]
              rfl
            refine pure_ (i := 11) (N := (some 60)) (v := undef) (a' := ?_) #[true, true, true, true, true, true, true, true, true, true, true, true, false, false, false, false, false, false] rfl rfl (any_of HT_.out (by kernel_rfl)) (fun _ _ _ h => h) (Or.inr ⟨by rfl, rfl⟩) ?_ ?_
            rotate_left
            · simp only [Act.put, List.setIfInBounds_toArray, List.set_cons_zero, List.set_cons_succ, i64_w, i32_w]
              rfl
            refine pure_ (i := 12) (N := (some 61)) (v := undef) (a' := ?_) #[true, true, true, true, true, true, true, true, true, true, true, true, true, false, false, false, false, false] rfl rfl (any_of HT_.out (by kernel_rfl)) (fun _ _ _ h => h) (Or.inr ⟨by rfl, rfl⟩) ?_ ?_
            rotate_left
            · simp only [Act.put, List.setIfInBounds_toArray, List.set_cons_zero, List.set_cons_succ, i64_w, i32_w]
              rfl
            refine pure_ (i := 13) (N := (some 62)) (v := undef) (a' := ?_) #[true, true, true, true, true, true, true, true, true, true, true, true, true, true, false, false, false, false] rfl rfl (any_of HT_.out (by kernel_rfl)) (fun _ _ _ h => h) (Or.inr ⟨by rfl, rfl⟩) ?_ ?_
            rotate_left
            · simp only [Act.put, List.setIfInBounds_toArray, List.set_cons_zero, List.set_cons_succ, i64_w, i32_w]
              rfl
            refine pure_ (i := 14) (N := (some 63)) (v := undef) (a' := ?_) #[true, true, true, true, true, true, true, true, true, true, true, true, true, true, true, false, false, false] rfl rfl (any_of HT_.out (by kernel_rfl)) (fun _ _ _ h => h) (Or.inr ⟨by rfl, rfl⟩) ?_ ?_
            rotate_left
            · simp only [Act.put, List.setIfInBounds_toArray, List.set_cons_zero, List.set_cons_succ, i64_w, i32_w]
              rfl
            refine pure_ (i := 15) (N := (some 64)) (v := ?_) (a' := ?_) #[true, true, true, true, true, true, true, true, true, true, true, true, true, true, true, true, false, false] rfl rfl (any_of HT_.out (by kernel_rfl)) (fun _ _ _ h => h) (Or.inl ⟨by rfl, ?_⟩) ?_ ?_
            rotate_left
            · intro w'
              go_simp
              with_reducible rfl
            rotate_left
            · simp only [Act.put, List.setIfInBounds_toArray, List.set_cons_zero, List.set_cons_succ, i64_w, i32_w]
              rfl
            refine one_ (i := 16) (N := none) #[true, true, true, true, true, true, true, true, true, true, true, true, true, true, true, true, true, false] rfl rfl (one_of HT_.out (by kernel_rfl)) (by decide) (fun K hK => ?_)
            have B2w := Aside0.mk (blk_below B2y.out HQ0.out)
            obtain ⟨z0, z1, z2, z3, z4, zs⟩ := five B2y.out
            have fz := blk_frozen B2y.out
            refine skip_ (w1 := set5 Wy.drew w.heap.size (.int .i64 (piB a).1) (.int .i64 (piB b).1) (.string c) (.slice (some ⟨wc.heap.size, 0, none⟩) (partsB 44 d).length (partsB 44 d).length) (.int .u64 (puB f).1)) (by rfl) rfl (by first | (go_simp; done) | (go_simp; rfl)) ?_
            clear z0 z1 z2 z3 z4 zs fz
            have Fz := Aside0.mk (set5_fr Wy.drew w.heap.size (.int .i64 (piB a).1) (.int .i64 (piB b).1) (.string c) (.slice (some ⟨wc.heap.size, 0, none⟩) (partsB 44 d).length (partsB 44 d).length) (.int .u64 (puB f).1))
            have Bz := Aside0.mk (set5_blk B2w.out (.int .i64 (piB a).1) (.int .i64 (piB b).1) (.string c) (.slice (some ⟨wc.heap.size, 0, none⟩) (partsB 44 d).length (partsB 44 d).length) (.int .u64 (puB f).1))
            refine hK.out _ _ ⟨Fz.out.cell (pw_cell_below HQ0.out q0) (fun hj => by have hj' : b7 = w.heap.size := hj; have h1 := HN.out; have h2 := HSz.out; omega), Fz.out.cell (pw_cell_below HQ0.out q1) (fun hj => by have hj' : b7 = w.heap.size := hj; have h1 := HN.out; have h2 := HSz.out; omega), Fz.out.cell (pw_cell_below HQ0.out q2) (fun hj => by have hj' : b7 = w.heap.size := hj; have h1 := HN.out; have h2 := HSz.out; omega), Fz.out.cell (pw_cell_below HQ0.out q3) (fun hj => by have hj' : b7 = w.heap.size := hj; have h1 := HN.out; have h2 := HSz.out; omega), Fz.out.cell (pw_cell_below HQ0.out q4) (fun hj => by have hj' : b7 = w.heap.size := hj; have h1 := HN.out; have h2 := HSz.out; omega), Fz.out.cell (pw_cell_below HQ0.out o0) (fun hj => by have hj' : W1.heap.size = w.heap.size := hj; have h2 := HSz.out; omega)⟩ (fun hHeld => ?_)
            clear hK K
            refine pure_ (i := 17) (N := (some 3)) (v := ?_) (a' := ?_) #[true, true, true, true, true, true, true, true, true, true, true, true, true, true, true, true, true, true] rfl rfl (any_of HT_.out (by kernel_rfl)) (fun _ _ _ h => h) (Or.inl ⟨by rfl, ?_⟩) ?_ ?_
            rotate_left
            · intro w'
              go_simp
              with_reducible rfl
            rotate_left
            · simp only [Act.put, List.setIfInBounds_toArray, List.set_cons_zero, List.set_cons_succ, i64_w, i32_w]
              rfl
            refine done_ (done_of HT_.out (by kernel_rfl)) ?_
            go_wp2
            refine bodyPost_ret (results_ct results37 _ _ w.heap.size 33 _ (0, 0) _ rfl Bz.out Tryd.underlying33 rfl (by kernel_rfl)) rfl ?_
            rw [HP.out]
            refine ⟨⟨.slice (some ⟨wc.heap.size, 0, none⟩) (partsB 44 d).length (partsB 44 d).length, ?_, ?_⟩, ?_⟩
            · exact ent_fin (by show ((((piB a).2 && (piB b).2) && (puB f).2) && _) = false; rw [HO.out, HU.out]; rfl)
            · exact R_any (R_fr (Kd.R_below HRy.out HQ0.out) Fz.out (fun j h1 h2 h3 hj => h3 hj))
            · exact (HB1.out.trans (HQy.out.mono HB1.out.size)).trans ((HQ0.out.mono (Nat.le_trans HB1.out.size HQy.out.size)).trans (Fz.out.toBelow (Nat.le_trans HB1.out.size (Nat.le_trans HQy.out.size HQ0.out.size)) (fun j hj => Nat.le_of_eq hj.symm)))
        | true =>
          have HU := Aside0.mk hu
          rw [hu] at hev
          clear hu
          obtain rfl : ev = .nilIface := hev
          go_wp2_with fail
          clear q0 q1 q2 q3 q4 qs fq
          have F7 := Aside0.mk ((Fr.refl (one b7) V).setCell (p := ⟨b7, 4, none⟩) (.inl rfl) (.int .u64 (puB f).1))
          have B7y := Aside0.mk (blk_set B7v.out 4 (.int .u64 (puB f).1))
          have HQy := Aside0.mk (HQv.out.trans (F7.out.toBelow (B := W1.heap.size) HQv.out.size (fun j hj => by have hj' : j = b7 := hj; have := HN.out; omega)))
          have B5y := Aside0.mk (F7.out.blk B5v.out (fun hj => by have hj' : W1.heap.size = b7 := hj; have := HN.out; omega))
          have B2y := Aside0.mk (blk_below B2.out HQy.out)
          have HRy : Aside0 (Kd.string.R 9 (V.setCell ⟨b7, 4, none⟩ (.int .u64 (puB f).1)) w.heap.size (fun k => k ≠ w.heap.size) (.slice (some ⟨wc.heap.size, 0, none⟩) (partsB 44 d).length (partsB 44 d).length) (partsB 44 d)) := ⟨R_fr HRv.out F7.out (fun j _ _ h3 hj => h3.2 hj) |> fun h => Kd.R_mono h (fun _ hk => hk.1)⟩
          obtain ⟨Wy, ey⟩ : ∃ Wy, Wy = V.setCell ⟨b7, 4, none⟩ (.int .u64 (puB f).1) := ⟨_, rfl⟩
          rw [← ey] at B7y HQy B5y B2y HRy ⊢
          clear ey F7
          have HCy : Aside0 (Kd.C Kd.string Wy (some ⟨wc.heap.size, 0, none⟩) (partsB 44 d).length (partsB 44 d)) := ⟨by obtain ⟨A', c', e', _, hC⟩ := Kd.R_reads HRy.out; cases e'; exact hC⟩
          have HLy : Aside0 ((partsB 44 d).length ≤ (partsB 44 d).length) := ⟨by obtain ⟨A', c', e', hl', _⟩ := Kd.R_reads HRy.out; cases e'; exact hl'⟩
          obtain ⟨q0, q1, q2, q3, q4, qs⟩ := five B7y.out
          have o0 := one_get B5y.out
          have HQ0 := Aside0.mk (below_drew (Below.refl Wy.heap.size Wy))
          cases ho : ((true && (piB a).2) && (piB b).2) with
          | false =>
            rw [ho] at o0
            have HO : Aside0 (((piB a).2 && (piB b).2) = false) := ⟨by simpa using ho⟩
            clear ho
            refine start_ (n := 18) (S := fun W => W.cell? ⟨b7, 0, none⟩ = some (.int .i64 (piB a).1) ∧ W.cell? ⟨b7, 1, none⟩ = some (.int .i64 (piB b).1) ∧ W.cell? ⟨b7, 2, none⟩ = some (.string c) ∧ W.cell? ⟨b7, 3, none⟩ = some (.slice (some ⟨wc.heap.size, 0, none⟩) (partsB 44 d).length (partsB 44 d).length) ∧ W.cell? ⟨b7, 4, none⟩ = some (.int .u64 (puB f).1) ∧ W.cell? ⟨W1.heap.size, 0, none⟩ = some (.bool false)) (ds := []) #[false, false, false, false, false, false, false, false, false, false, false, false, false, false, false, false, false, false] (by kernel_rfl) rfl rfl ⟨pw_cell_below HQ0.out q0, pw_cell_below HQ0.out q1, pw_cell_below HQ0.out q2, pw_cell_below HQ0.out q3, pw_cell_below HQ0.out q4, pw_cell_below HQ0.out o0⟩ (fun hHeld => ?_)
            refine with_tabW reg37_11.tab reg37_11.bits (fun HT_ HW_ => ?_)
            refine take_ (i := 0) (N := (some 49)) (v := ?_) (a' := ?_) #[true, false, false, false, false, false, false, false, false, false, false, false, false, false, false, false, false, false] rfl rfl (take_ofW HT_.out HW_.out (by kernel_rfl)) (fun _ _ _ h => h) (Or.inl ⟨by rfl, ?_⟩) hHeld ?_ ?_
            rotate_left
            · rintro w' ⟨s0, s1, s2, s3, s4, s5⟩
              go_simp
              with_reducible rfl
            rotate_left
            · simp only [Act.put, List.setIfInBounds_toArray, List.set_cons_zero, List.set_cons_succ, i64_w, i32_w]
              rfl
            refine take_ (i := 1) (N := (some 50)) (v := ?_) (a' := ?_) #[true, true, false, false, false, false, false, false, false, false, false, false, false, false, false, false, false, false] rfl rfl (take_ofW HT_.out HW_.out (by kernel_rfl)) (fun _ _ _ h => h) (Or.inl ⟨by rfl, ?_⟩) hHeld ?_ ?_
            rotate_left
            · rintro w' ⟨s0, s1, s2, s3, s4, s5⟩
              go_simp
              with_reducible rfl
            rotate_left
            · simp only [Act.put, List.setIfInBounds_toArray, List.set_cons_zero, List.set_cons_succ, i64_w, i32_w]
              rfl
            refine pure_ (i := 2) (N := (some 51)) (v := ?_) (a' := ?_) #[true, true, true, false, false, false, false, false, false, false, false, false, false, false, false, false, false, false] rfl rfl (any_of HT_.out (by kernel_rfl)) (fun _ _ _ h => h) (Or.inl ⟨by rfl, ?_⟩) ?_ ?_
            rotate_left
            · intro w'
              go_simp
              with_reducible rfl
            rotate_left
            · simp only [Act.put, List.setIfInBounds_toArray, List.set_cons_zero, List.set_cons_succ, i64_w, i32_w]
              rfl
            refine pure_ (i := 3) (N := (some 52)) (v := undef) (a' := ?_) #[true, true, true, true, false, false, false, false, false, false, false, false, false, false, false, false, false, false] rfl rfl (any_of HT_.out (by kernel_rfl)) (fun _ _ _ h => h) (Or.inr ⟨by rfl, rfl⟩) ?_ ?_
            rotate_left
            · simp only [Act.put, List.setIfInBounds_toArray, List.set_cons_zero, List.set_cons_succ, i64_w, i32_w]
              rfl
            refine pure_ (i := 4) (N := (some 53)) (v := undef) (a' := ?_) #[true, true, true, true, true, false, false, false, false, false, false, false, false, false, false, false, false, false] rfl rfl (any_of HT_.out (by kernel_rfl)) (fun _ _ _ h => h) (Or.inr ⟨by rfl, rfl⟩) ?_ ?_
            rotate_left
            · simp only [Act.put, List.setIfInBounds_toArray, List.set_cons_zero, List.set_cons_succ, i64_w, i32_w]
              rfl
            refine pure_ (i := 5) (N := (some 54)) (v := ?_) (a' := ?_) #[true, true, true, true, true, true, false, false, false, false, false, false, false, false, false, false, false, false] rfl rfl (any_of HT_.out (by kernel_rfl)) (fun _ _ _ h => h) (Or.inl ⟨by rfl, ?_⟩) ?_ ?_
            rotate_left
            · intro w'
              go_simp
              with_reducible rfl
            rotate_left
            · simp only [Act.put, List.setIfInBounds_toArray, List.set_cons_zero, List.set_cons_succ, i64_w, i32_w]
              rfl
            refine pure_ (i := 6) (N := (some 55)) (v := ?_) (a' := ?_) #[true, true, true, true, true, true, true, false, false, false, false, false, false, false, false, false, false, false] rfl rfl (any_of HT_.out (by kernel_rfl)) (fun _ _ _ h => h) (Or.inl ⟨by rfl, ?_⟩) ?_ ?_
            rotate_left
            · intro w'
              go_simp
              with_reducible rfl
            rotate_left
            · simp only [Act.put, List.setIfInBounds_toArray, List.set_cons_zero, List.set_cons_succ, i64_w, i32_w]
              rfl
            refine pure_ (i := 7) (N := (some 56)) (v := undef) (a' := ?_) #[true, true, true, true, true, true, true, true, false, false, false, false, false, false, false, false, false, false] rfl rfl (any_of HT_.out (by kernel_rfl)) (fun _ _ _ h => h) (Or.inr ⟨by rfl, rfl⟩) ?_ ?_
            rotate_left
            · simp only [Act.put, List.setIfInBounds_toArray, List.set_cons_zero, List.set_cons_succ, i64_w, i32_w]
              rfl
            refine pure_ (i := 8) (N := (some 57)) (v := undef) (a' := ?_) #[true, true, true, true, true, true, true, true, true, false, false, false, false, false, false, false, false, false] rfl rfl (any_of HT_.out (by kernel_rfl)) (fun _ _ _ h => h) (Or.inr ⟨by rfl, rfl⟩) ?_ ?_
            rotate_left
            · simp only [Act.put, List.setIfInBounds_toArray, List.set_cons_zero, List.set_cons_succ, i64_w, i32_w]
              rfl
            refine pure_ (i := 9) (N := (some 58)) (v := ?_) (a' := ?_) #[true, true, true, true, true, true, true, true, true, true, false, false, false, false, false, false, false, false] rfl rfl (any_of HT_.out (by kernel_rfl)) (fun _ _ _ h => h) (Or.inl ⟨by rfl, ?_⟩) ?_ ?_
            rotate_left
            · intro w'
              go_simp
              with_reducible rfl
            rotate_left
            · simp only [Act.put, List.setIfInBounds_toArray, List.set_cons_zero, List.set_cons_succ, i64_w, i32_w]
              rfl
            refine pure_ (i := 10) (N := (some 59)) (v := ?_) (a' := ?_) #[true, true, true, true, true, true, true, true, true, true, true, false, false, false, false, false, false, false] rfl rfl (any_of HT_.out (by kernel_rfl)) (fun _ _ _ h => h) (Or.inl ⟨by rfl, ?_⟩) ?_ ?_
            rotate_left
            · intro w'
              go_simp
              with_reducible rfl
            rotate_left
            · simp only [Act.put, List.setIfInBounds_toArray, List.set_cons_zero, List.set_cons_succ, i64_w, i32_w]
              rfl
            refine pure_ (i := 11) (N := (some 60)) (v := undef) (a' := ?_) #[true, true, true, true, true, true, true, true, true, true, true, true, false, false, false, false, false, false] rfl rfl (any_of HT_.out (by kernel_rfl)) (fun _ _ _ h => h) (Or.inr ⟨by rfl, rfl⟩) ?_ ?_
            rotate_left
            · simp only [Act.put, List.setIfInBounds_toArray, List.set_cons_zero, List.set_cons_succ, i64_w, i32_w]
              rfl
            refine pure_ (i := 12) (N := (some 61)) (v := undef) (a' := ?_) #[true, true, true, true, true, true, true, true, true, true, true, true, true, false, false, false, false, false] rfl rfl (any_of HT_.out (by kernel_rfl)) (fun _ _ _ h => h) (Or.inr ⟨by rfl, rfl⟩) ?_ ?_
            rotate_left
            · simp only [Act.put, List.setIfInBounds_toArray, List.set_cons_zero, List.set_cons_succ, i64_w, i32_w]
              rfl
            refine pure_ (i := 13) (N := (some 62)) (v := undef) (a' := ?_) #[true, true, true, true, true, true, true, true, true, true, true, true, true, true, false, false, false, false] rfl rfl (any_of HT_.out (by kernel_rfl)) (fun _ _ _ h => h) (Or.inr ⟨by rfl, rfl⟩) ?_ ?_
            rotate_left
            · simp only [Act.put, List.setIfInBounds_toArray, List.set_cons_zero, List.set_cons_succ, i64_w, i32_w]
              rfl
            refine pure_ (i := 14) (N := (some 63)) (v := undef) (a' := ?_) #[true, true, true, true, true, true, true, true, true, true, true, true, true, true, true, false, false, false] rfl rfl (any_of HT_.out (by kernel_rfl)) (fun _ _ _ h => h) (Or.inr ⟨by rfl, rfl⟩) ?_ ?_
            rotate_left
            · simp only [Act.put, List.setIfInBounds_toArray, List.set_cons_zero, List.set_cons_succ, i64_w, i32_w]
              rfl
            refine pure_ (i := 15) (N := (some 64)) (v := ?_) (a' := ?_) #[true, true, true, true, true, true, true, true, true, true, true, true, true, true, true, true, false, false] rfl rfl (any_of HT_.out (by kernel_rfl)) (fun _ _ _ h => h) (Or.inl ⟨by rfl, ?_⟩) ?_ ?_
            rotate_left
            · intro w'
              go_simp
              with_reducible rfl
            rotate_left
            · simp only [Act.put, List.setIfInBounds_toArray, List.set_cons_zero, List.set_cons_succ, i64_w, i32_w]
              rfl
            refine one_ (i := 16) (N := none) #[true, true, true, true, true, true, true, true, true, true, true, true, true, true, true, true, true, false] rfl rfl (one_of HT_.out (by kernel_rfl)) (by decide) (fun K hK => ?_)
            have B2w := Aside0.mk (blk_below B2y.out HQ0.out)
            obtain ⟨z0, z1, z2, z3, z4, zs⟩ := five B2y.out
            have fz := blk_frozen B2y.out
            refine skip_ (w1 := set5 Wy.drew w.heap.size (.int .i64 (piB a).1) (.int .i64 (piB b).1) (.string c) (.slice (some ⟨wc.heap.size, 0, none⟩) (partsB 44 d).length (partsB 44 d).length) (.int .u64 (puB f).1)) (by rfl) rfl (by first | (go_simp; done) | (go_simp; rfl)) ?_
            clear z0 z1 z2 z3 z4 zs fz
            have Fz := Aside0.mk (set5_fr Wy.drew w.heap.size (.int .i64 (piB a).1) (.int .i64 (piB b).1) (.string c) (.slice (some ⟨wc.heap.size, 0, none⟩) (partsB 44 d).length (partsB 44 d).length) (.int .u64 (puB f).1))
            have Bz := Aside0.mk (set5_blk B2w.out (.int .i64 (piB a).1) (.int .i64 (piB b).1) (.string c) (.slice (some ⟨wc.heap.size, 0, none⟩) (partsB 44 d).length (partsB 44 d).length) (.int .u64 (puB f).1))
            refine hK.out _ _ ⟨Fz.out.cell (pw_cell_below HQ0.out q0) (fun hj => by have hj' : b7 = w.heap.size := hj; have h1 := HN.out; have h2 := HSz.out; omega), Fz.out.cell (pw_cell_below HQ0.out q1) (fun hj => by have hj' : b7 = w.heap.size := hj; have h1 := HN.out; have h2 := HSz.out; omega), Fz.out.cell (pw_cell_below HQ0.out q2) (fun hj => by have hj' : b7 = w.heap.size := hj; have h1 := HN.out; have h2 := HSz.out; omega), Fz.out.cell (pw_cell_below HQ0.out q3) (fun hj => by have hj' : b7 = w.heap.size := hj; have h1 := HN.out; have h2 := HSz.out; omega), Fz.out.cell (pw_cell_below HQ0.out q4) (fun hj => by have hj' : b7 = w.heap.size := hj; have h1 := HN.out; have h2 := HSz.out; omega), Fz.out.cell (pw_cell_below HQ0.out o0) (fun hj => by have hj' : W1.heap.size = w.heap.size := hj; have h2 := HSz.out; omega)⟩ (fun hHeld => ?_)
            clear hK K
            refine pure_ (i := 17) (N := (some 3)) (v := ?_) (a' := ?_) #[true, true, true, true, true, true, true, true, true, true, true, true, true, true, true, true, true, true] rfl rfl (any_of HT_.out (by kernel_rfl)) (fun _ _ _ h => h) (Or.inl ⟨by rfl, ?_⟩) ?_ ?_
            rotate_left
            · intro w'
              go_simp
              with_reducible rfl
            rotate_left
            · simp only [Act.put, List.setIfInBounds_toArray, List.set_cons_zero, List.set_cons_succ, i64_w, i32_w]
              rfl
            refine done_ (done_of HT_.out (by kernel_rfl)) ?_
            go_wp2
            refine bodyPost_ret (results_ct results37 _ _ w.heap.size 33 _ (0, 0) _ rfl Bz.out Tryd.underlying33 rfl (by kernel_rfl)) rfl ?_
            rw [HP.out]
            refine ⟨⟨.slice (some ⟨wc.heap.size, 0, none⟩) (partsB 44 d).length (partsB 44 d).length, ?_, ?_⟩, ?_⟩
            · exact ent_fin (by show ((((piB a).2 && (piB b).2) && (puB f).2) && _) = false; rw [HO.out]; rfl)
            · exact R_any (R_fr (Kd.R_below HRy.out HQ0.out) Fz.out (fun j h1 h2 h3 hj => h3 hj))
            · exact (HB1.out.trans (HQy.out.mono HB1.out.size)).trans ((HQ0.out.mono (Nat.le_trans HB1.out.size HQy.out.size)).trans (Fz.out.toBelow (Nat.le_trans HB1.out.size (Nat.le_trans HQy.out.size HQ0.out.size)) (fun j hj => Nat.le_of_eq hj.symm)))
          | true =>
            rw [ho] at o0
            have HO : Aside0 (((piB a).2 && (piB b).2) = true) := ⟨by simpa using ho⟩
            clear ho
            cases hm : mayE (piB a).1 (piB b).1 c (partsB 44 d) with
            | false =>
              have HM := Aside0.mk hm
              clear hm
              refine start_ (n := 18) (S := fun W => W.cell? ⟨b7, 0, none⟩ = some (.int .i64 (piB a).1) ∧ W.cell? ⟨b7, 1, none⟩ = some (.int .i64 (piB b).1) ∧ W.cell? ⟨b7, 2, none⟩ = some (.string c) ∧ W.cell? ⟨b7, 3, none⟩ = some (.slice (some ⟨wc.heap.size, 0, none⟩) (partsB 44 d).length (partsB 44 d).length) ∧ W.cell? ⟨b7, 4, none⟩ = some (.int .u64 (puB f).1) ∧ W.cell? ⟨W1.heap.size, 0, none⟩ = some (.bool true)) (ds := []) #[false, false, false, false, false, false, false, false, false, false, false, false, false, false, false, false, false, false] (by kernel_rfl) rfl rfl ⟨pw_cell_below HQ0.out q0, pw_cell_below HQ0.out q1, pw_cell_below HQ0.out q2, pw_cell_below HQ0.out q3, pw_cell_below HQ0.out q4, pw_cell_below HQ0.out o0⟩ (fun hHeld => ?_)
              refine with_tabW reg37_11.tab reg37_11.bits (fun HT_ HW_ => ?_)
              refine take_ (i := 0) (N := (some 49)) (v := ?_) (a' := ?_) #[true, false, false, false, false, false, false, false, false, false, false, false, false, false, false, false, false, false] rfl rfl (take_ofW HT_.out HW_.out (by kernel_rfl)) (fun _ _ _ h => h) (Or.inl ⟨by rfl, ?_⟩) hHeld ?_ ?_
              rotate_left
              · rintro w' ⟨s0, s1, s2, s3, s4, s5⟩
                go_simp
                with_reducible rfl
              rotate_left
              · simp only [Act.put, List.setIfInBounds_toArray, List.set_cons_zero, List.set_cons_succ, i64_w, i32_w]
                rfl
              refine take_ (i := 1) (N := (some 50)) (v := ?_) (a' := ?_) #[true, true, false, false, false, false, false, false, false, false, false, false, false, false, false, false, false, false] rfl rfl (take_ofW HT_.out HW_.out (by kernel_rfl)) (fun _ _ _ h => h) (Or.inl ⟨by rfl, ?_⟩) hHeld ?_ ?_
              rotate_left
              · rintro w' ⟨s0, s1, s2, s3, s4, s5⟩
                go_simp
                with_reducible rfl
              rotate_left
              · simp only [Act.put, List.setIfInBounds_toArray, List.set_cons_zero, List.set_cons_succ, i64_w, i32_w]
                rfl
              refine pure_ (i := 2) (N := (some 51)) (v := ?_) (a' := ?_) #[true, true, true, false, false, false, false, false, false, false, false, false, false, false, false, false, false, false] rfl rfl (any_of HT_.out (by kernel_rfl)) (fun _ _ _ h => h) (Or.inl ⟨by rfl, ?_⟩) ?_ ?_
              rotate_left
              · intro w'
                go_simp
                with_reducible rfl
              rotate_left
              · simp only [Act.put, List.setIfInBounds_toArray, List.set_cons_zero, List.set_cons_succ, i64_w, i32_w]
                rfl
              refine pure_ (i := 3) (N := (some 52)) (v := ?_) (a' := ?_) #[true, true, true, true, false, false, false, false, false, false, false, false, false, false, false, false, false, false] rfl rfl (any_of HT_.out (by kernel_rfl)) (fun _ _ _ h => h) (Or.inl ⟨by rfl, ?_⟩) ?_ ?_
              rotate_left
              · intro w'
                go_simp
                with_reducible rfl
              rotate_left
              · simp only [Act.put, List.setIfInBounds_toArray, List.set_cons_zero, List.set_cons_succ, i64_w, i32_w]
                rfl
              refine pure_ (i := 4) (N := (some 53)) (v := ?_) (a' := ?_) #[true, true, true, true, true, false, false, false, false, false, false, false, false, false, false, false, false, false] rfl rfl (any_of HT_.out (by kernel_rfl)) (fun _ _ _ h => h) (Or.inl ⟨by rfl, ?_⟩) ?_ ?_
              rotate_left
              · intro w'
                go_simp
                with_reducible rfl
              rotate_left
              · simp only [Act.put, List.setIfInBounds_toArray, List.set_cons_zero, List.set_cons_succ, i64_w, i32_w]
                rfl
              refine pure_ (i := 5) (N := (some 54)) (v := ?_) (a' := ?_) #[true, true, true, true, true, true, false, false, false, false, false, false, false, false, false, false, false, false] rfl rfl (any_of HT_.out (by kernel_rfl)) (fun _ _ _ h => h) (Or.inl ⟨by rfl, ?_⟩) ?_ ?_
              rotate_left
              · intro w'
                go_simp
                with_reducible rfl
              rotate_left
              · simp only [Act.put, List.setIfInBounds_toArray, List.set_cons_zero, List.set_cons_succ, i64_w, i32_w]
                rfl
              refine pure_ (i := 6) (N := (some 55)) (v := ?_) (a' := ?_) #[true, true, true, true, true, true, true, false, false, false, false, false, false, false, false, false, false, false] rfl rfl (any_of HT_.out (by kernel_rfl)) (fun _ _ _ h => h) (Or.inl ⟨by rfl, ?_⟩) ?_ ?_
              rotate_left
              · intro w'
                go_simp
                with_reducible rfl
              rotate_left
              · simp only [Act.put, List.setIfInBounds_toArray, List.set_cons_zero, List.set_cons_succ, i64_w, i32_w]
                rfl
              refine take_ (i := 7) (N := (some 56)) (v := ?_) (a' := ?_) #[true, true, true, true, true, true, true, true, false, false, false, false, false, false, false, false, false, false] rfl rfl (take_ofW HT_.out HW_.out (by kernel_rfl)) (fun _ _ _ h => h) (Or.inl ⟨by rfl, ?_⟩) hHeld ?_ ?_
              rotate_left
              · rintro w' ⟨s0, s1, s2, s3, s4, s5⟩
                go_simp
                with_reducible rfl
              rotate_left
              · simp only [Act.put, List.setIfInBounds_toArray, List.set_cons_zero, List.set_cons_succ, i64_w, i32_w]
                rfl
              refine one_ (i := 8) (N := (some 57)) #[true, true, true, true, true, true, true, true, true, false, false, false, false, false, false, false, false, false] rfl rfl (one_of HT_.out (by kernel_rfl)) (by decide) (fun K hK => ?_)
              refine goes_ Tryd.func26 (by kernel_rfl) rfl #[.agg #[.int .i64 (piB a).1, .int .i64 (piB b).1, .string c, .slice (some ⟨wc.heap.size, 0, none⟩) (partsB 44 d).length (partsB 44 d).length, .int .u64 (puB f).1]] (by rfl) rfl rfl (by (try simp only [List.map_toArray, List.map_cons, List.map_nil]); first | done | rfl) ?_
              refine (mayE_calls (piB a).1 (piB b).1 c (some ⟨wc.heap.size, 0, none⟩) (partsB 44 d).length (partsB 44 d) (puB f).1 _ (Kd.C_below HCy.out HQ0.out)).mono ?_
              rintro e V1 ⟨rfl, hb⟩
              refine ⟨_, rfl, ?_⟩
              have HQ1 := Aside0.mk (HQ0.out.trans (hb.mono HQ0.out.size))
              clear hb
              rw [HM.out]
              refine hK.out _ _ ⟨pw_cell_below HQ1.out q0, pw_cell_below HQ1.out q1, pw_cell_below HQ1.out q2, pw_cell_below HQ1.out q3, pw_cell_below HQ1.out q4, pw_cell_below HQ1.out o0⟩ (fun hHeld => ?_)
              clear hK K
              refine norm_ (a' := ?_) ?_ ?_
              rotate_left
              · show Act.put _ (some 57) _ = _
                simp only [Act.put, List.setIfInBounds_toArray, List.set_cons_zero, List.set_cons_succ, i64_w, i32_w]
                rfl
              refine pure_ (i := 9) (N := (some 58)) (v := ?_) (a' := ?_) #[true, true, true, true, true, true, true, true, true, true, false, false, false, false, false, false, false, false] rfl rfl (any_of HT_.out (by kernel_rfl)) (fun _ _ _ h => h) (Or.inl ⟨by rfl, ?_⟩) ?_ ?_
              rotate_left
              · intro w'
                go_simp
                with_reducible rfl
              rotate_left
              · simp only [Act.put, List.setIfInBounds_toArray, List.set_cons_zero, List.set_cons_succ, i64_w, i32_w]
                rfl
              refine pure_ (i := 10) (N := (some 59)) (v := ?_) (a' := ?_) #[true, true, true, true, true, true, true, true, true, true, true, false, false, false, false, false, false, false] rfl rfl (any_of HT_.out (by kernel_rfl)) (fun _ _ _ h => h) (Or.inl ⟨by rfl, ?_⟩) ?_ ?_
              rotate_left
              · intro w'
                go_simp
                with_reducible rfl
              rotate_left
              · simp only [Act.put, List.setIfInBounds_toArray, List.set_cons_zero, List.set_cons_succ, i64_w, i32_w]
                rfl
              refine pure_ (i := 11) (N := (some 60)) (v := undef) (a' := ?_) #[true, true, true, true, true, true, true, true, true, true, true, true, false, false, false, false, false, false] rfl rfl (any_of HT_.out (by kernel_rfl)) (fun _ _ _ h => h) (Or.inr ⟨by rfl, rfl⟩) ?_ ?_
              rotate_left
              · simp only [Act.put, List.setIfInBounds_toArray, List.set_cons_zero, List.set_cons_succ, i64_w, i32_w]
                rfl
              refine pure_ (i := 12) (N := (some 61)) (v := undef) (a' := ?_) #[true, true, true, true, true, true, true, true, true, true, true, true, true, false, false, false, false, false] rfl rfl (any_of HT_.out (by kernel_rfl)) (fun _ _ _ h => h) (Or.inr ⟨by rfl, rfl⟩) ?_ ?_
              rotate_left
              · simp only [Act.put, List.setIfInBounds_toArray, List.set_cons_zero, List.set_cons_succ, i64_w, i32_w]
                rfl
              refine pure_ (i := 13) (N := (some 62)) (v := undef) (a' := ?_) #[true, true, true, true, true, true, true, true, true, true, true, true, true, true, false, false, false, false] rfl rfl (any_of HT_.out (by kernel_rfl)) (fun _ _ _ h => h) (Or.inr ⟨by rfl, rfl⟩) ?_ ?_
              rotate_left
              · simp only [Act.put, List.setIfInBounds_toArray, List.set_cons_zero, List.set_cons_succ, i64_w, i32_w]
                rfl
              refine pure_ (i := 14) (N := (some 63)) (v := undef) (a' := ?_) #[true, true, true, true, true, true, true, true, true, true, true, true, true, true, true, false, false, false] rfl rfl (any_of HT_.out (by kernel_rfl)) (fun _ _ _ h => h) (Or.inr ⟨by rfl, rfl⟩) ?_ ?_
              rotate_left
              · simp only [Act.put, List.setIfInBounds_toArray, List.set_cons_zero, List.set_cons_succ, i64_w, i32_w]
                rfl
              refine pure_ (i := 15) (N := (some 64)) (v := ?_) (a' := ?_) #[true, true, true, true, true, true, true, true, true, true, true, true, true, true, true, true, false, false] rfl rfl (any_of HT_.out (by kernel_rfl)) (fun _ _ _ h => h) (Or.inl ⟨by rfl, ?_⟩) ?_ ?_
              rotate_left
              · intro w'
                go_simp
                with_reducible rfl
              rotate_left
              · simp only [Act.put, List.setIfInBounds_toArray, List.set_cons_zero, List.set_cons_succ, i64_w, i32_w]
                rfl
              refine one_ (i := 16) (N := none) #[true, true, true, true, true, true, true, true, true, true, true, true, true, true, true, true, true, false] rfl rfl (one_of HT_.out (by kernel_rfl)) (by decide) (fun K hK => ?_)
              have B2w := Aside0.mk (blk_below B2y.out HQ1.out)
              obtain ⟨z0, z1, z2, z3, z4, zs⟩ := five B2w.out
              have fz := blk_frozen B2w.out
              refine skip_ (w1 := set5 V1 w.heap.size (.int .i64 (piB a).1) (.int .i64 (piB b).1) (.string c) (.slice (some ⟨wc.heap.size, 0, none⟩) (partsB 44 d).length (partsB 44 d).length) (.int .u64 (puB f).1)) (by rfl) rfl (by first | (go_simp; done) | (go_simp; rfl)) ?_
              clear z0 z1 z2 z3 z4 zs fz
              have Fz := Aside0.mk (set5_fr V1 w.heap.size (.int .i64 (piB a).1) (.int .i64 (piB b).1) (.string c) (.slice (some ⟨wc.heap.size, 0, none⟩) (partsB 44 d).length (partsB 44 d).length) (.int .u64 (puB f).1))
              have Bz := Aside0.mk (set5_blk B2w.out (.int .i64 (piB a).1) (.int .i64 (piB b).1) (.string c) (.slice (some ⟨wc.heap.size, 0, none⟩) (partsB 44 d).length (partsB 44 d).length) (.int .u64 (puB f).1))
              refine hK.out _ _ ⟨Fz.out.cell (pw_cell_below HQ1.out q0) (fun hj => by have hj' : b7 = w.heap.size := hj; have h1 := HN.out; have h2 := HSz.out; omega), Fz.out.cell (pw_cell_below HQ1.out q1) (fun hj => by have hj' : b7 = w.heap.size := hj; have h1 := HN.out; have h2 := HSz.out; omega), Fz.out.cell (pw_cell_below HQ1.out q2) (fun hj => by have hj' : b7 = w.heap.size := hj; have h1 := HN.out; have h2 := HSz.out; omega), Fz.out.cell (pw_cell_below HQ1.out q3) (fun hj => by have hj' : b7 = w.heap.size := hj; have h1 := HN.out; have h2 := HSz.out; omega), Fz.out.cell (pw_cell_below HQ1.out q4) (fun hj => by have hj' : b7 = w.heap.size := hj; have h1 := HN.out; have h2 := HSz.out; omega), Fz.out.cell (pw_cell_below HQ1.out o0) (fun hj => by have hj' : W1.heap.size = w.heap.size := hj; have h2 := HSz.out; omega)⟩ (fun hHeld => ?_)
              clear hK K
              refine pure_ (i := 17) (N := (some 3)) (v := ?_) (a' := ?_) #[true, true, true, true, true, true, true, true, true, true, true, true, true, true, true, true, true, true] rfl rfl (any_of HT_.out (by kernel_rfl)) (fun _ _ _ h => h) (Or.inl ⟨by rfl, ?_⟩) ?_ ?_
              rotate_left
              · intro w'
                go_simp
                with_reducible rfl
              rotate_left
              · simp only [Act.put, List.setIfInBounds_toArray, List.set_cons_zero, List.set_cons_succ, i64_w, i32_w]
                rfl
              refine done_ (done_of HT_.out (by kernel_rfl)) ?_
              go_wp2
              refine bodyPost_ret (results_ct results37 _ _ w.heap.size 33 _ (0, 0) _ rfl Bz.out Tryd.underlying33 rfl (by kernel_rfl)) rfl ?_
              rw [HP.out]
              refine ⟨⟨.slice (some ⟨wc.heap.size, 0, none⟩) (partsB 44 d).length (partsB 44 d).length, ?_, ?_⟩, ?_⟩
              · exact ent_fin (by show ((((piB a).2 && (piB b).2) && (puB f).2) && (mayE (piB a).1 (piB b).1 c (partsB 44 d) && _)) = false; rw [HO.out, HU.out, HM.out]; rfl)
              · exact R_any (R_fr (Kd.R_below HRy.out HQ1.out) Fz.out (fun j h1 h2 h3 hj => h3 hj))
              · exact (HB1.out.trans (HQy.out.mono HB1.out.size)).trans ((HQ1.out.mono (Nat.le_trans HB1.out.size HQy.out.size)).trans (Fz.out.toBelow (Nat.le_trans HB1.out.size (Nat.le_trans HQy.out.size HQ1.out.size)) (fun j hj => Nat.le_of_eq hj.symm)))
            | true =>
              have HM := Aside0.mk hm
              clear hm
              refine start_ (n := 18) (S := fun W => W.cell? ⟨b7, 0, none⟩ = some (.int .i64 (piB a).1) ∧ W.cell? ⟨b7, 1, none⟩ = some (.int .i64 (piB b).1) ∧ W.cell? ⟨b7, 2, none⟩ = some (.string c) ∧ W.cell? ⟨b7, 3, none⟩ = some (.slice (some ⟨wc.heap.size, 0, none⟩) (partsB 44 d).length (partsB 44 d).length) ∧ W.cell? ⟨b7, 4, none⟩ = some (.int .u64 (puB f).1) ∧ W.cell? ⟨W1.heap.size, 0, none⟩ = some (.bool true)) (ds := []) #[false, false, false, false, false, false, false, false, false, false, false, false, false, false, false, false, false, false] (by kernel_rfl) rfl rfl ⟨pw_cell_below HQ0.out q0, pw_cell_below HQ0.out q1, pw_cell_below HQ0.out q2, pw_cell_below HQ0.out q3, pw_cell_below HQ0.out q4, pw_cell_below HQ0.out o0⟩ (fun hHeld => ?_)
              refine with_tabW reg37_11.tab reg37_11.bits (fun HT_ HW_ => ?_)
              refine take_ (i := 0) (N := (some 49)) (v := ?_) (a' := ?_) #[true, false, false, false, false, false, false, false, false, false, false, false, false, false, false, false, false, false] rfl rfl (take_ofW HT_.out HW_.out (by kernel_rfl)) (fun _ _ _ h => h) (Or.inl ⟨by rfl, ?_⟩) hHeld ?_ ?_
              rotate_left
              · rintro w' ⟨s0, s1, s2, s3, s4, s5⟩
                go_simp
                with_reducible rfl
              rotate_left
              · simp only [Act.put, List.setIfInBounds_toArray, List.set_cons_zero, List.set_cons_succ, i64_w, i32_w]
                rfl
              refine take_ (i := 1) (N := (some 50)) (v := ?_) (a' := ?_) #[true, true, false, false, false, false, false, false, false, false, false, false, false, false, false, false, false, false] rfl rfl (take_ofW HT_.out HW_.out (by kernel_rfl)) (fun _ _ _ h => h) (Or.inl ⟨by rfl, ?_⟩) hHeld ?_ ?_
              rotate_left
              · rintro w' ⟨s0, s1, s2, s3, s4, s5⟩
                go_simp
                with_reducible rfl
              rotate_left
              · simp only [Act.put, List.setIfInBounds_toArray, List.set_cons_zero, List.set_cons_succ, i64_w, i32_w]
                rfl
              refine pure_ (i := 2) (N := (some 51)) (v := ?_) (a' := ?_) #[true, true, true, false, false, false, false, false, false, false, false, false, false, false, false, false, false, false] rfl rfl (any_of HT_.out (by kernel_rfl)) (fun _ _ _ h => h) (Or.inl ⟨by rfl, ?_⟩) ?_ ?_
              rotate_left
              · intro w'
                go_simp
                with_reducible rfl
              rotate_left
              · simp only [Act.put, List.setIfInBounds_toArray, List.set_cons_zero, List.set_cons_succ, i64_w, i32_w]
                rfl
              refine pure_ (i := 3) (N := (some 52)) (v := ?_) (a' := ?_) #[true, true, true, true, false, false, false, false, false, false, false, false, false, false, false, false, false, false] rfl rfl (any_of HT_.out (by kernel_rfl)) (fun _ _ _ h => h) (Or.inl ⟨by rfl, ?_⟩) ?_ ?_
              rotate_left
              · intro w'
                go_simp
                with_reducible rfl
              rotate_left
              · simp only [Act.put, List.setIfInBounds_toArray, List.set_cons_zero, List.set_cons_succ, i64_w, i32_w]
                rfl
              refine pure_ (i := 4) (N := (some 53)) (v := ?_) (a' := ?_) #[true, true, true, true, true, false, false, false, false, false, false, false, false, false, false, false, false, false] rfl rfl (any_of HT_.out (by kernel_rfl)) (fun _ _ _ h => h) (Or.inl ⟨by rfl, ?_⟩) ?_ ?_
              rotate_left
              · intro w'
                go_simp
                with_reducible rfl
              rotate_left
              · simp only [Act.put, List.setIfInBounds_toArray, List.set_cons_zero, List.set_cons_succ, i64_w, i32_w]
                rfl
              refine pure_ (i := 5) (N := (some 54)) (v := ?_) (a' := ?_) #[true, true, true, true, true, true, false, false, false, false, false, false, false, false, false, false, false, false] rfl rfl (any_of HT_.out (by kernel_rfl)) (fun _ _ _ h => h) (Or.inl ⟨by rfl, ?_⟩) ?_ ?_
              rotate_left
              · intro w'
                go_simp
                with_reducible rfl
              rotate_left
              · simp only [Act.put, List.setIfInBounds_toArray, List.set_cons_zero, List.set_cons_succ, i64_w, i32_w]
                rfl
              refine pure_ (i := 6) (N := (some 55)) (v := ?_) (a' := ?_) #[true, true, true, true, true, true, true, false, false, false, false, false, false, false, false, false, false, false] rfl rfl (any_of HT_.out (by kernel_rfl)) (fun _ _ _ h => h) (Or.inl ⟨by rfl, ?_⟩) ?_ ?_
              rotate_left
              · intro w'
                go_simp
                with_reducible rfl
              rotate_left
              · simp only [Act.put, List.setIfInBounds_toArray, List.set_cons_zero, List.set_cons_succ, i64_w, i32_w]
                rfl
              refine take_ (i := 7) (N := (some 56)) (v := ?_) (a' := ?_) #[true, true, true, true, true, true, true, true, false, false, false, false, false, false, false, false, false, false] rfl rfl (take_ofW HT_.out HW_.out (by kernel_rfl)) (fun _ _ _ h => h) (Or.inl ⟨by rfl, ?_⟩) hHeld ?_ ?_
              rotate_left
              · rintro w' ⟨s0, s1, s2, s3, s4, s5⟩
                go_simp
                with_reducible rfl
              rotate_left
              · simp only [Act.put, List.setIfInBounds_toArray, List.set_cons_zero, List.set_cons_succ, i64_w, i32_w]
                rfl
              refine one_ (i := 8) (N := (some 57)) #[true, true, true, true, true, true, true, true, true, false, false, false, false, false, false, false, false, false] rfl rfl (one_of HT_.out (by kernel_rfl)) (by decide) (fun K hK => ?_)
              refine goes_ Tryd.func26 (by kernel_rfl) rfl #[.agg #[.int .i64 (piB a).1, .int .i64 (piB b).1, .string c, .slice (some ⟨wc.heap.size, 0, none⟩) (partsB 44 d).length (partsB 44 d).length, .int .u64 (puB f).1]] (by rfl) rfl rfl (by (try simp only [List.map_toArray, List.map_cons, List.map_nil]); first | done | rfl) ?_
              refine (mayE_calls (piB a).1 (piB b).1 c (some ⟨wc.heap.size, 0, none⟩) (partsB 44 d).length (partsB 44 d) (puB f).1 _ (Kd.C_below HCy.out HQ0.out)).mono ?_
              rintro e V1 ⟨rfl, hb⟩
              refine ⟨_, rfl, ?_⟩
              have HQ1 := Aside0.mk (HQ0.out.trans (hb.mono HQ0.out.size))
              clear hb
              rw [HM.out]
              refine hK.out _ _ ⟨pw_cell_below HQ1.out q0, pw_cell_below HQ1.out q1, pw_cell_below HQ1.out q2, pw_cell_below HQ1.out q3, pw_cell_below HQ1.out q4, pw_cell_below HQ1.out o0⟩ (fun hHeld => ?_)
              clear hK K
              refine norm_ (a' := ?_) ?_ ?_
              rotate_left
              · show Act.put _ (some 57) _ = _
                simp only [Act.put, List.setIfInBounds_toArray, List.set_cons_zero, List.set_cons_succ, i64_w, i32_w]
                rfl
              refine pure_ (i := 9) (N := (some 58)) (v := ?_) (a' := ?_) #[true, true, true, true, true, true, true, true, true, true, false, false, false, false, false, false, false, false] rfl rfl (any_of HT_.out (by kernel_rfl)) (fun _ _ _ h => h) (Or.inl ⟨by rfl, ?_⟩) ?_ ?_
              rotate_left
              · intro w'
                go_simp
                with_reducible rfl
              rotate_left
              · simp only [Act.put, List.setIfInBounds_toArray, List.set_cons_zero, List.set_cons_succ, i64_w, i32_w]
                rfl
              refine pure_ (i := 10) (N := (some 59)) (v := ?_) (a' := ?_) #[true, true, true, true, true, true, true, true, true, true, true, false, false, false, false, false, false, false] rfl rfl (any_of HT_.out (by kernel_rfl)) (fun _ _ _ h => h) (Or.inl ⟨by rfl, ?_⟩) ?_ ?_
              rotate_left
              · intro w'
                go_simp
                with_reducible rfl
              rotate_left
              · simp only [Act.put, List.setIfInBounds_toArray, List.set_cons_zero, List.set_cons_succ, i64_w, i32_w]
                rfl
              refine pure_ (i := 13) (N := (some 62)) (v := ?_) (a' := ?_) #[true, true, true, true, true, true, true, true, true, true, true, false, false, true, false, false, false, false] rfl rfl (any_of HT_.out (by kernel_rfl)) (fun _ _ _ h => h) (Or.inl ⟨by rfl, ?_⟩) ?_ ?_
              rotate_left
              · intro w'
                go_simp
                with_reducible rfl
              rotate_left
              · simp only [Act.put, List.setIfInBounds_toArray, List.set_cons_zero, List.set_cons_succ, i64_w, i32_w]
                rfl
              refine take_ (i := 11) (N := (some 60)) (v := ?_) (a' := ?_) #[true, true, true, true, true, true, true, true, true, true, true, true, false, true, false, false, false, false] rfl rfl (take_ofW HT_.out HW_.out (by kernel_rfl)) (fun _ _ _ h => h) (Or.inl ⟨by rfl, ?_⟩) hHeld ?_ ?_
              rotate_left
              · rintro w' ⟨s0, s1, s2, s3, s4, s5⟩
                go_simp
                with_reducible rfl
              rotate_left
              · simp only [Act.put, List.setIfInBounds_toArray, List.set_cons_zero, List.set_cons_succ, i64_w, i32_w]
                rfl
              refine one_ (i := 12) (N := (some 61)) #[true, true, true, true, true, true, true, true, true, true, true, true, true, true, false, false, false, false] rfl rfl (one_of HT_.out (by kernel_rfl)) (by decide) (fun K hK => ?_)
              refine goes_ Tryd.func32 (by kernel_rfl) rfl #[.agg #[.int .i64 (piB a).1, .int .i64 (piB b).1, .string c, .slice (some ⟨wc.heap.size, 0, none⟩) (partsB 44 d).length (partsB 44 d).length, .int .u64 (puB f).1]] (by rfl) rfl rfl (by (try simp only [List.map_toArray, List.map_cons, List.map_nil]); first | done | rfl) ?_
              refine (line_calls (⟨(piB a).1, (piB b).1, c, (partsB 44 d), (puB f).1⟩ : S30) (some ⟨wc.heap.size, 0, none⟩) (partsB 44 d).length _ (Kd.C_below HCy.out HQ1.out) HLy.out ⟨HM.out, by exact Int.natCast_nonneg _, by have h := puB_lt f; show ((puB f).1 : Int) < 18446744073709551616; omega⟩ (HE1.out.tab.below (HQy.out.trans (HQ1.out.mono HQy.out.size)))).mono ?_
              rintro e V2 ⟨rfl, hb⟩
              refine ⟨_, rfl, ?_⟩
              have HQ2 := Aside0.mk (HQ1.out.trans (hb.mono HQ1.out.size))
              clear hb
              refine hK.out _ _ ⟨pw_cell_below HQ2.out q0, pw_cell_below HQ2.out q1, pw_cell_below HQ2.out q2, pw_cell_below HQ2.out q3, pw_cell_below HQ2.out q4, pw_cell_below HQ2.out o0⟩ (fun hHeld => ?_)
              clear hK K
              refine norm_ (a' := ?_) ?_ ?_
              rotate_left
              · show Act.put _ (some 61) _ = _
                simp only [Act.put, List.setIfInBounds_toArray, List.set_cons_zero, List.set_cons_succ, i64_w, i32_w]
                rfl
              refine pure_ (i := 14) (N := (some 63)) (v := ?_) (a' := ?_) #[true, true, true, true, true, true, true, true, true, true, true, true, true, true, true, false, false, false] rfl rfl (any_of HT_.out (by kernel_rfl)) (fun _ _ _ h => h) (Or.inl ⟨by rfl, ?_⟩) ?_ ?_
              rotate_left
              · intro w'
                go_simp
                with_reducible rfl
              rotate_left
              · simp only [Act.put, List.setIfInBounds_toArray, List.set_cons_zero, List.set_cons_succ, i64_w, i32_w]
                rfl
              refine pure_ (i := 15) (N := (some 64)) (v := ?_) (a' := ?_) #[true, true, true, true, true, true, true, true, true, true, true, true, true, true, true, true, false, false] rfl rfl (any_of HT_.out (by kernel_rfl)) (fun _ _ _ h => h) (Or.inl ⟨by rfl, ?_⟩) ?_ ?_
              rotate_left
              · intro w'
                go_simp
                with_reducible rfl
              rotate_left
              · simp only [Act.put, List.setIfInBounds_toArray, List.set_cons_zero, List.set_cons_succ, i64_w, i32_w]
                rfl
              refine one_ (i := 16) (N := none) #[true, true, true, true, true, true, true, true, true, true, true, true, true, true, true, true, true, false] rfl rfl (one_of HT_.out (by kernel_rfl)) (by decide) (fun K hK => ?_)
              have B2w := Aside0.mk (blk_below B2y.out HQ2.out)
              obtain ⟨z0, z1, z2, z3, z4, zs⟩ := five B2w.out
              have fz := blk_frozen B2w.out
              refine skip_ (w1 := set5 V2 w.heap.size (.int .i64 (piB a).1) (.int .i64 (piB b).1) (.string c) (.slice (some ⟨wc.heap.size, 0, none⟩) (partsB 44 d).length (partsB 44 d).length) (.int .u64 (puB f).1)) (by rfl) rfl (by first | (go_simp; done) | (go_simp; rfl)) ?_
              clear z0 z1 z2 z3 z4 zs fz
              have Fz := Aside0.mk (set5_fr V2 w.heap.size (.int .i64 (piB a).1) (.int .i64 (piB b).1) (.string c) (.slice (some ⟨wc.heap.size, 0, none⟩) (partsB 44 d).length (partsB 44 d).length) (.int .u64 (puB f).1))
              have Bz := Aside0.mk (set5_blk B2w.out (.int .i64 (piB a).1) (.int .i64 (piB b).1) (.string c) (.slice (some ⟨wc.heap.size, 0, none⟩) (partsB 44 d).length (partsB 44 d).length) (.int .u64 (puB f).1))
              refine hK.out _ _ ⟨Fz.out.cell (pw_cell_below HQ2.out q0) (fun hj => by have hj' : b7 = w.heap.size := hj; have h1 := HN.out; have h2 := HSz.out; omega), Fz.out.cell (pw_cell_below HQ2.out q1) (fun hj => by have hj' : b7 = w.heap.size := hj; have h1 := HN.out; have h2 := HSz.out; omega), Fz.out.cell (pw_cell_below HQ2.out q2) (fun hj => by have hj' : b7 = w.heap.size := hj; have h1 := HN.out; have h2 := HSz.out; omega), Fz.out.cell (pw_cell_below HQ2.out q3) (fun hj => by have hj' : b7 = w.heap.size := hj; have h1 := HN.out; have h2 := HSz.out; omega), Fz.out.cell (pw_cell_below HQ2.out q4) (fun hj => by have hj' : b7 = w.heap.size := hj; have h1 := HN.out; have h2 := HSz.out; omega), Fz.out.cell (pw_cell_below HQ2.out o0) (fun hj => by have hj' : W1.heap.size = w.heap.size := hj; have h2 := HSz.out; omega)⟩ (fun hHeld => ?_)
              clear hK K
              refine pure_ (i := 17) (N := (some 3)) (v := ?_) (a' := ?_) #[true, true, true, true, true, true, true, true, true, true, true, true, true, true, true, true, true, true] rfl rfl (any_of HT_.out (by kernel_rfl)) (fun _ _ _ h => h) (Or.inl ⟨by rfl, ?_⟩) ?_ ?_
              rotate_left
              · intro w'
                go_simp
                with_reducible rfl
              rotate_left
              · simp only [Act.put, List.setIfInBounds_toArray, List.set_cons_zero, List.set_cons_succ, i64_w, i32_w]
                rfl
              refine done_ (done_of HT_.out (by kernel_rfl)) ?_
              go_wp2
              refine bodyPost_ret (results_ct results37 _ _ w.heap.size 33 _ (0, 0) _ rfl Bz.out Tryd.underlying33 rfl (by kernel_rfl)) rfl ?_
              rw [HP.out]
              refine ⟨⟨.slice (some ⟨wc.heap.size, 0, none⟩) (partsB 44 d).length (partsB 44 d).length, ?_, ?_⟩, ?_⟩
              · exact ent_fin (by show ((((piB a).2 && (piB b).2) && (puB f).2) && (mayE (piB a).1 (piB b).1 c (partsB 44 d) && _)) = _; rw [HO.out, HU.out, HM.out]; exact str_beq _ _)
              · exact R_any (R_fr (Kd.R_below HRy.out HQ2.out) Fz.out (fun j h1 h2 h3 hj => h3 hj))
              · exact (HB1.out.trans (HQy.out.mono HB1.out.size)).trans ((HQ2.out.mono (Nat.le_trans HB1.out.size HQy.out.size)).trans (Fz.out.toBelow (Nat.le_trans HB1.out.size (Nat.le_trans HQy.out.size HQ2.out.size)) (fun j hj => Nat.le_of_eq hj.symm)))
  · have HP : Aside0 (entP s = (z30, false)) := ⟨by
      unfold entP
      rw [← hw0.out]
      match ws, h5 with
      | [], _ => rfl
      | [_], _ => rfl
      | [_, _], _ => rfl
      | [_, _, _], _ => rfl
      | [_, _, _, _], _ => rfl
      | [_, _, _, _, _], h => exact absurd rfl h
      | _ :: _ :: _ :: _ :: _ :: _ :: _, _ => rfl⟩
    have hne2 : ((ws.length : Int) != 5) = true := by simp; omega
    obtain ⟨z0, z1, z2, z3, z4, zs⟩ := five B2.out
    have fz := blk_frozen B2.out
    go_wp2
    refine bodyPost_ret (results_ct results37 _ _ w.heap.size 33 _ (0, 0) _ rfl (set5_blk B2.out (.int .i64 0) (.int .i64 0) (.string ⟨#[]⟩) (.slice none 0 0) (.int .u64 0)) Tryd.underlying33 rfl (by kernel_rfl)) rfl ?_
    rw [HP.out]
    exact ⟨⟨.slice none 0 0, rfl, Kd.R_nil _ _ _ _ _⟩, HB1.out.trans ((set5_fr W1 w.heap.size _ _ _ _ _).toBelow HB1.out.size (fun j hj => Nat.le_of_eq hj.symm))⟩
end Go.Proofs.YtmbkmfdmpimegaaDoor
