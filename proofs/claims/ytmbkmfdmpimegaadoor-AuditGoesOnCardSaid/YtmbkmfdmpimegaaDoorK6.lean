/-
  The walk of Decode: the chain of any bytes, or which line is wrong, and how. Plain laws: a number that is written is read as it was. Plain laws: words that were joined are the parts of the text. Plain law: the line of an entry that may be is read as that entry. Plain law: what a chain's bytes, and what lies behind them without a line's end, are decoded as. Plain law: the bytes of a chain that are cut anywhere are torn there, or are the chain's beginning.
-/
import Derived.Test.YtmbkmfdmpimegaaDoorK5
import Derived.Lib.ParseIntBCases
import Derived.Lib.AtoiAllCases
set_option linter.unusedVariables false
set_option linter.unusedSimpArgs false
namespace Go.Proofs.YtmbkmfdmpimegaaDoor
open Go.RowKit Go.Lib Go.Sort Go.Proofs.YtmbkmfdmpimegaaDoorW.PrintWords Go.Proofs.YtmbkmfdmpimegaaDoorW.PrintLast Go.Proofs.YtmbkmfdmpimegaaDoor.PR

/-- a text up to its first line's end, what is behind it, is there one -/
def cutA (s : ByteArray) : ByteArray := ⟨(Lib.cut s.data.toList [10]).1.toArray⟩
def cutZ (s : ByteArray) : ByteArray := ⟨(Lib.cut s.data.toList [10]).2.1.toArray⟩
def cutF (s : ByteArray) : Bool := (Lib.cut s.data.toList [10]).2.2
/-- without the first line's beginning -/
def trimB (s : ByteArray) : ByteArray := ⟨(Lib.trimPrefix s.data.toList [97, 117, 100, 105, 116, 32]).toArray⟩
/-- the lines behind the first one -/
def decG : Nat → ByteArray → Nat → List S30 → Option (Nat × List S30) × Nat × Nat
  | 0, _, _, _ => (none, 0, 9)
  | k + 1, r, u, es =>
    if r.toList = [] then (some (u, es), es.length + 1, 0)
    else if cutF r = false then (none, es.length + 1, 3)
    else if (entP (cutA r)).2 = false then (none, es.length + 1, 2)
    else if (entP (cutA r)).1.f4 = sumE (lastS u es) (entP (cutA r)).1.f0 (entP (cutA r)).1.f1 (entP (cutA r)).1.f2 (entP (cutA r)).1.f3 then decG k (cutZ r) u (es ++ [(entP (cutA r)).1])
    else (none, es.length + 1, 4)
/-- what Decode answers -/
def decB (b : ByteArray) : Option (Nat × List S30) × Nat × Nat :=
  if cutF b = false then (none, 0, 3)
  else if (puB (trimB (cutA b))).2 = false then (none, 0, 2)
  else if beginB (puB (trimB (cutA b))).1 = cutA b then decG (b.size + 1) (cutZ b) (puB (trimB (cutA b))).1 []
  else (none, 0, 2)
def DecOut (w : World) (r : Option (Nat × List S30) × Nat × Nat) (e : Ending) (w' : World) : Prop :=
  match r with
  | (none, n, f) => e = .returned (.tuple #[.pointer none, .int .i64 n, .int .i64 f])
  | (some (u, es), n, f) => ∃ g v, e = .returned (.tuple #[.pointer (some ⟨g, 0, none⟩), .int .i64 n, .int .i64 f]) ∧ Chain w.heap.size (nb g) w' g v u es
theorem cut_le (s : ByteArray) : (cutA s).size ≤ s.size ∧ (cutZ s).size ≤ s.size ∧ (cutF s = true → (cutA s).size + (cutZ s).size + 1 = s.size) := by
  have hr := Lib.index_room s.data.toList [10]
  unfold cutA cutZ cutF Lib.cut
  split
  · next h =>
    have := hr h
    simp only [ByteArray.size, List.size_toArray, List.length_take, List.length_drop, List.length_singleton] at this ⊢
    have h2 : s.data.size = s.size := rfl
    simp only [Array.length_toList] at this ⊢
    omega
  · exact ⟨Nat.le_of_eq (by show s.data.toList.toArray.size = s.data.size; simp), Nat.zero_le _, fun h => by cases h⟩
theorem trim_le (s : ByteArray) : (trimB s).size ≤ s.size := by
  unfold trimB Lib.trimPrefix
  split
  · show (List.toArray _).size ≤ s.data.size
    rw [List.size_toArray, List.length_drop, Array.length_toList]; omega
  · exact Nat.le_of_eq (by show s.data.toList.toArray.size = s.data.size; simp)
theorem entP_fine (s : ByteArray) (h : (entP s).2 = true) : Fine (entP s).1 := by
  unfold entP at h ⊢
  split at h
  · next a b c d f he =>
    unfold ent5 at h ⊢
    simp only [Bool.and_eq_true] at h
    exact ⟨h.2.1, Int.natCast_nonneg _, by have h := puB_lt f; show ((puB f).1 : Int) < 18446744073709551616; omega⟩
  · cases h
theorem results21 : Tryd.f21.results = #[.tmp 2, .tmp 3, .tmp 4] := by kernel_rfl
theorem cut_calls (s : ByteArray) (w : World) (hs : s.size < 4294967281) (he : Env w) :
    Calls Tryd.prog 34 #[.string s, .string ⟨#[10]⟩] w fun e w' => e = .returned (.tuple #[.string (cutA s), .string (cutZ s), .bool (cutF s)]) ∧ Below w.heap.size w w' := by
  obtain ⟨_, ⟨m, hm⟩, _, _⟩ := he
  refine (Tryd.strings_Cut s ⟨#[10]⟩ m w hs hm).mono ?_
  rintro e w' ⟨rfl, n, rfl⟩
  exact ⟨rfl, pw_below_drewN (Below.refl _ _) n⟩

def reg21_19.T : Bool × List (List Nat × List Nat) := (true, [([], []), ([0], [0]), ([], []), ([], []), ([3], [3]), ([2, 4, 4], [2, 4]), ([1, 5], [1, 5]), ([6, 5], [6])])
def reg21_19.B : List Nat := [0, 1, 0, 0, 8, 28, 63, 127]
theorem reg21_19.tab : rtab .any (opsOf Tryd.f21 19) = reg21_19.T := by kernel_rfl
theorem reg21_19.bits : waitsOk reg21_19.T.2 reg21_19.B = true := by kernel_rfl
def reg21_21.T : Bool × List (List Nat × List Nat) := (true, [([], []), ([], []), ([1], [1]), ([2], [2]), ([3], [3]), ([], []), ([5], [5]), ([4, 6], [4, 6]), ([0, 0, 1, 2, 3, 4, 5, 6, 7], [0]), ([8, 0, 1, 2, 3, 4, 5, 6, 7], [8]), ([9, 7, 7, 0, 1, 2, 3, 4, 5, 6, 7], [7, 9])])
def reg21_21.B : List Nat := [0, 0, 2, 6, 14, 0, 32, 126, 255, 511, 1023]
theorem reg21_21.tab : rtab .any (opsOf Tryd.f21 21) = reg21_21.T := by kernel_rfl
theorem reg21_21.bits : waitsOk reg21_21.T.2 reg21_21.B = true := by kernel_rfl
set_option maxRecDepth 100000 in
set_option maxHeartbeats 4000000 in
theorem decode_calls (A : Option Addr) (c : Nat) (b : ByteArray) (w : World) (hr : ReadsInt w .u8 A b.size (bytesOf b)) (hs : b.size < 4294967281) (he : Env w) :
    Calls Tryd.prog 21 #[.slice A b.size c] w fun e w' => DecOut w (decB b) e w' ∧ Below w.heap.size w w' := by
  have HE := Aside0.mk he
  have HS := Aside0.mk hs
  have hcv := conv_back w A c b hr
  clear hr he hs
  go_enter Tryd.func21, Tryd.ntmps21
  go_wp2_with fail
  clear hcv
  go_loopw [5, 6, 7] (fun s p i wr => ∃ (n : Nat) (r : ByteArray), i = .int .i64 n ∧ s = .string r ∧ Aside0 (Below w.heap.size w wr) ∧ ((n = 0 ∧ r = b ∧ p = .pointer none) ∨
      ∃ (g : Nat) (v : Value) (u : Nat) (es : List S30) (k : Nat), p = .pointer (some ⟨g, 0, none⟩) ∧ n = es.length + 1 ∧ Aside0 (Chain w.heap.size (nb g) wr g v u es) ∧ Aside0 (decG k r u es = decB b) ∧ Aside0 (r.size < k) ∧ Aside0 (r.size + n ≤ b.size)))
    (fun s _ i _ => match s with | .string r => (if intOf i = 0 then 1 else 0) + r.size | _ => 0)
  case atStart => exact ⟨0, b, rfl, rfl, ⟨Below.refl _ _⟩, .inl ⟨rfl, rfl, rfl⟩⟩
  case round =>
    obtain ⟨n, r, rfl, rfl, HBr, hcase⟩ := hrel
    rcases hcase with ⟨rfl, rfl, rfl⟩ | ⟨g, v, u, es, k, rfl, rfl, HCr, HG, HK, HN⟩
    · go_wp2_with fail
      refine (cut_calls r _ HS.out (HE.out.below HBr.out)).mono ?_
      rintro e w1 ⟨rfl, hb⟩
      have HB1 := Aside0.mk (HBr.out.trans (hb.mono HBr.out.size))
      clear hb
      have HCL := Aside0.mk (cut_le r)
      cases hf : cutF r with
      | false =>
        have HP : Aside0 (decB r = (none, 0, 3)) := ⟨by unfold decB; rw [if_pos hf]⟩
        clear hf
        go_wp2
        refine bodyPost_ret (results_tmp3 results21 _ _ _) rfl ?_
        rw [HP.out]
        exact ⟨rfl, HB1.out⟩
      | true =>
        have HF := Aside0.mk hf
        clear hf
        go_wp2_with fail
        refine (Tryd.strings_TrimPrefix (cutA r) ⟨#[97, 117, 100, 105, 116, 32]⟩ w1).mono ?_
        rintro e w1' ⟨rfl, rfl⟩
        have htr : (⟨(Lib.trimPrefix (cutA r).data.toList (⟨#[97, 117, 100, 105, 116, 32]⟩ : ByteArray).data.toList).toArray⟩ : ByteArray) = trimB (cutA r) := rfl
        rw [htr]
        clear htr
        go_wp2_with fail
        refine (parseU_calls (trimB (cutA r)) (by have h1 := trim_le (cutA r); have h2 := HCL.out.1; have h3 := HS.out; omega) _ (HE.out.below HB1.out)).mono ?_
        rintro e w2 ⟨⟨ev, rfl, hev⟩, hb⟩
        have HB2 := Aside0.mk (HB1.out.trans (hb.mono HB1.out.size))
        have hlt := puB_lt (trimB (cutA r))
        have HLT := Aside0.mk hlt
        clear hb hlt
        cases hp : (puB (trimB (cutA r))).2 with
        | false =>
          rw [hp] at hev
          obtain ⟨N, rfl⟩ : ∃ N : Nat, ev = .iface 93 (.pointer (some ⟨N, 0, none⟩)) := hev
          have HP : Aside0 (decB r = (none, 0, 2)) := ⟨by unfold decB; rw [if_neg (by rw [HF.out]; simp), if_pos hp]⟩
          clear hp
          go_wp2
          refine bodyPost_ret (results_tmp3 results21 _ _ _) rfl ?_
          rw [HP.out]
          exact ⟨rfl, HB2.out⟩
        | true =>
          rw [hp] at hev
          obtain rfl : ev = .nilIface := hev
          have HPU := Aside0.mk hp
          clear hp
          go_wp2_with fail
          refine (begin_calls (puB (trimB (cutA r))).1 HLT.out _ (HE.out.tab.below HB2.out)).mono ?_
          rintro e w3 ⟨rfl, hb⟩
          have HB3 := Aside0.mk (HB2.out.trans (hb.mono HB2.out.size))
          clear hb
          by_cases hq : beginB (puB (trimB (cutA r))).1 = cutA r
          · have HP : Aside0 (decB r = decG (r.size + 1) (cutZ r) (puB (trimB (cutA r))).1 []) := ⟨by unfold decB; rw [if_neg (by rw [HF.out]; simp), if_neg (by rw [HPU.out]; simp), if_pos hq]⟩
            have hqb : ((beginB (puB (trimB (cutA r))).1).toList == (cutA r).toList) = true := by rw [hq]; simp
            clear hq
            go_wp2_with fail
            refine (new_calls _ w3).mono ?_
            rintro e w4 ⟨rfl, rfl⟩
            have HC4 := Aside0.mk (chain_new (puB (trimB (cutA r))).1 w3)
            have HB4 := Aside0.mk (below_alloc HB3.out (.cells #[.int .u64 (puB (trimB (cutA r))).1, .slice none 0 0] 52))
            have hcl := HCL.out.2.2 HF.out
            go_wp2
            go_roundw
            case rel =>
              refine ⟨1, cutZ r, by go_num, rfl, HB4, .inr ⟨w3.heap.size, .slice none 0 0, (puB (trimB (cutA r))).1, [], r.size + 1, rfl, rfl, ⟨?_⟩, ⟨HP.out.symm⟩, ⟨by omega⟩, ⟨by omega⟩⟩⟩
              exact ⟨HC4.out.blk, Kd.R_nil _ _ _ _ _, HB3.out.size, HC4.out.nok⟩
            case measure => simp [intOf]; omega
          · have HP : Aside0 (decB r = (none, 0, 2)) := ⟨by unfold decB; rw [if_neg (by rw [HF.out]; simp), if_neg (by rw [HPU.out]; simp), if_neg hq]⟩
            have hqb : ((beginB (puB (trimB (cutA r))).1).toList == (cutA r).toList) = false := by
              have h : (beginB (puB (trimB (cutA r))).1).toList ≠ (cutA r).toList := fun h => hq (ba_ext (by rw [← ByteArray.toList_eq, h, ByteArray.toList_eq]))
              exact beq_eq_false_iff_ne.2 h
            clear hq
            go_wp2
            refine bodyPost_ret (results_tmp3 results21 _ _ _) rfl ?_
            rw [HP.out]
            exact ⟨rfl, HB3.out⟩
    · have hnz : (((es.length + 1 : Nat) : Int) == 0) = false := by simp; omega
      have hnp : decide ((0 : Int) < ((es.length + 1 : Nat) : Int)) = true := decide_eq_true (by omega)
      obtain ⟨k, rfl⟩ : ∃ m, k = m + 1 := ⟨k - 1, by have := HK.out; omega⟩
      cases hz : (r.toList == []) with
      | true =>
        have hz2 : r.toList = [] := by simpa using hz
        have HP : Aside0 (decB b = (some (u, es), es.length + 1, 0)) := ⟨by rw [← HG.out]; unfold decG; rw [if_pos hz2]⟩
        clear hz2
        go_wp2
        refine bodyPost_ret (results_tmp3 results21 _ _ _) rfl ?_
        rw [HP.out]
        exact ⟨⟨g, v, rfl, HCr.out⟩, HBr.out⟩
      | false =>
        have HZ : Aside0 (¬ r.toList = []) := ⟨by simpa using hz⟩
        go_wp2_with fail
        refine (cut_calls r _ (by have := HS.out; have := HN.out; omega) (HE.out.below HBr.out)).mono ?_
        rintro e w1 ⟨rfl, hb⟩
        have HB1 := Aside0.mk (HBr.out.trans (hb.mono HBr.out.size))
        have HC1 := Aside0.mk (HCr.out.below hb)
        clear hb
        have HCL := Aside0.mk (cut_le r)
        cases hf : cutF r with
        | false =>
          have HP : Aside0 (decB b = (none, es.length + 1, 3)) := ⟨by rw [← HG.out]; unfold decG; rw [if_neg HZ.out, if_pos hf]⟩
          clear hf
          go_wp2
          refine bodyPost_ret (results_tmp3 results21 _ _ _) rfl ?_
          rw [HP.out]
          exact ⟨rfl, HB1.out⟩
        | true =>
          have HF := Aside0.mk hf
          clear hf
          go_wp2_with fail
          refine (entry_calls (cutA r) _ (by have h1 := HCL.out.1; have h2 := HS.out; have h3 := HN.out; omega) (HE.out.below HB1.out)).mono ?_
          rintro e w2 ⟨⟨v3, rfl, hR⟩, hb⟩
          have HB2 := Aside0.mk (HB1.out.trans (hb.mono HB1.out.size))
          have HC2 := Aside0.mk (HC1.out.below hb)
          have hw12 := hb.size
          clear hb
          obtain ⟨A3, c3, rfl⟩ := Kd.R_slice hR
          cases hk2 : (entP (cutA r)).2 with
          | false =>
            have HP : Aside0 (decB b = (none, es.length + 1, 2)) := ⟨by rw [← HG.out]; unfold decG; rw [if_neg HZ.out, if_neg (by rw [HF.out]; simp), if_pos hk2]⟩
            clear hk2
            unfold entV
            go_wp2
            refine bodyPost_ret (results_tmp3 results21 _ _ _) rfl ?_
            rw [HP.out]
            exact ⟨rfl, below_alloc HB2.out _⟩
          | true =>
            have HX := Aside0.mk (entP_fine _ hk2)
            have HK2 := Aside0.mk hk2
            clear hk2
            unfold entV
            obtain ⟨x, hx⟩ : ∃ x, x = (entP (cutA r)).1 := ⟨_, rfl⟩
            rw [← hx] at HX hR ⊢
            have HXE := Aside0.mk hx
            clear hx
            have hmm := mayE_parts HX.out.1
            have HMM := Aside0.mk (And.intro hmm.1 (And.intro hmm.2.1 (And.intro hmm.2.2.1 (And.intro hmm.2.2.2.1 hmm.2.2.2.2.2.1))))
            have HSz : Aside0 (∀ s ∈ x.f3, s.size ≤ 9223372036854775807) := ⟨fun s hs => by have := nameB_size (hmm.2.2.2.2.2.2 s hs); omega⟩
            have HPs : Aside0 (x.f2.size ≤ 9223372036854775807) := ⟨by have := nameB_size hmm.2.2.2.2.1; omega⟩
            have HR3 := Aside0.mk (Kd.R_alloc hR (.cells #[.int .i64 x.f0, .int .i64 x.f1, .string x.f2, .slice A3 x.f3.length c3, .int .u64 x.f4] 33))
            have BX3 := Aside0.mk (heap_alloc_new w2 (.cells #[.int .i64 x.f0, .int .i64 x.f1, .string x.f2, .slice A3 x.f3.length c3, .int .u64 x.f4] 33))
            have HB3 := Aside0.mk (below_alloc HB2.out (.cells #[.int .i64 x.f0, .int .i64 x.f1, .string x.f2, .slice A3 x.f3.length c3, .int .u64 x.f4] 33))
            have HC3 := Aside0.mk (HC2.out.below (below_alloc (Below.refl _ _) (.cells #[.int .i64 x.f0, .int .i64 x.f1, .string x.f2, .slice A3 x.f3.length c3, .int .u64 x.f4] 33)))
            go_wp2_with fail
            obtain ⟨W3, e3⟩ : ∃ W3, W3 = w2.alloc (.cells #[.int .i64 x.f0, .int .i64 x.f1, .string x.f2, .slice A3 x.f3.length c3, .int .u64 x.f4] 33) := ⟨_, rfl⟩
            rw [← e3] at HR3 BX3 HB3 HC3 ⊢
            clear e3 hR hmm
            have HCx : Aside0 (Kd.C Kd.string W3 A3 x.f3.length x.f3) := ⟨by obtain ⟨A', c', e', _, hC⟩ := Kd.R_reads HR3.out; cases e'; exact hC⟩
            obtain ⟨q0, q1, q2, q3, q4, qs⟩ := five BX3.out
            have HQ0 := Aside0.mk (below_drew (Below.refl W3.heap.size W3))
            refine start_ (n := 8) (S := fun W => W.cell? ⟨w2.heap.size, 0, none⟩ = some (.int .i64 x.f0) ∧ W.cell? ⟨w2.heap.size, 1, none⟩ = some (.int .i64 x.f1) ∧ W.cell? ⟨w2.heap.size, 2, none⟩ = some (.string x.f2) ∧ W.cell? ⟨w2.heap.size, 3, none⟩ = some (.slice A3 x.f3.length c3) ∧ W.cell? ⟨w2.heap.size, 4, none⟩ = some (.int .u64 x.f4)) (ds := []) #[false, false, false, false, false, false, false, false] (by kernel_rfl) rfl rfl ⟨pw_cell_below HQ0.out q0, pw_cell_below HQ0.out q1, pw_cell_below HQ0.out q2, pw_cell_below HQ0.out q3, pw_cell_below HQ0.out q4⟩ (fun hHeld => ?_)
            refine with_tabW reg21_19.tab reg21_19.bits (fun HT_ HW_ => ?_)
            refine pure_ (i := 0) (N := (some 65)) (v := ?_) (a' := ?_) #[true, false, false, false, false, false, false, false] rfl rfl (any_of HT_.out (by kernel_rfl)) (fun _ _ _ h => h) (Or.inl ⟨by rfl, ?_⟩) ?_ ?_
            rotate_left
            · intro w'
              go_simp
              with_reducible rfl
            rotate_left
            · simp only [Act.put, List.setIfInBounds_toArray, List.set_cons_zero, List.set_cons_succ, i64_w, i32_w]
              rfl
            refine pure_ (i := 3) (N := (some 68)) (v := ?_) (a' := ?_) #[true, false, false, true, false, false, false, false] rfl rfl (any_of HT_.out (by kernel_rfl)) (fun _ _ _ h => h) (Or.inl ⟨by rfl, ?_⟩) ?_ ?_
            rotate_left
            · intro w'
              go_simp
              with_reducible rfl
            rotate_left
            · simp only [Act.put, List.setIfInBounds_toArray, List.set_cons_zero, List.set_cons_succ, i64_w, i32_w]
              rfl
            refine take_ (i := 1) (N := (some 66)) (v := ?_) (a' := ?_) #[true, true, false, true, false, false, false, false] rfl rfl (take_ofW HT_.out HW_.out (by kernel_rfl)) (fun _ _ _ h => h) (Or.inl ⟨by rfl, ?_⟩) hHeld ?_ ?_
            rotate_left
            · rintro w' ⟨s0, s1, s2, s3, s4⟩
              go_simp
              with_reducible rfl
            rotate_left
            · simp only [Act.put, List.setIfInBounds_toArray, List.set_cons_zero, List.set_cons_succ, i64_w, i32_w]
              rfl
            refine take_ (i := 2) (N := (some 67)) (v := ?_) (a' := ?_) #[true, true, true, true, false, false, false, false] rfl rfl (take_ofW HT_.out HW_.out (by kernel_rfl)) (fun _ _ _ h => h) (Or.inl ⟨by rfl, ?_⟩) hHeld ?_ ?_
            rotate_left
            · rintro w' ⟨s0, s1, s2, s3, s4⟩
              go_simp
              with_reducible rfl
            rotate_left
            · simp only [Act.put, List.setIfInBounds_toArray, List.set_cons_zero, List.set_cons_succ, i64_w, i32_w]
              rfl
            refine one_ (i := 4) (N := (some 69)) #[true, true, true, true, true, false, false, false] rfl rfl (one_of HT_.out (by kernel_rfl)) (by decide) (fun K hK => ?_)
            refine goes_ Tryd.func28 (by kernel_rfl) rfl #[.pointer (some ⟨g, 0, none⟩)] (by rfl) rfl rfl (by (try simp only [List.map_toArray, List.map_cons, List.map_nil]); first | done | rfl) ?_
            refine (last_calls g v u es _ (HC3.out.below HQ0.out)).mono ?_
            rintro e V1 ⟨rfl, rfl⟩
            refine ⟨_, rfl, ?_⟩
            refine hK.out _ _ ⟨pw_cell_below HQ0.out q0, pw_cell_below HQ0.out q1, pw_cell_below HQ0.out q2, pw_cell_below HQ0.out q3, pw_cell_below HQ0.out q4⟩ (fun hHeld => ?_)
            clear hK K
            refine norm_ (a' := ?_) ?_ ?_
            rotate_left
            · show Act.put _ (some 69) _ = _
              simp only [Act.put, List.setIfInBounds_toArray, List.set_cons_zero, List.set_cons_succ, i64_w, i32_w]
              rfl
            refine one_ (i := 5) (N := (some 70)) #[true, true, true, true, true, true, false, false] rfl rfl (one_of HT_.out (by kernel_rfl)) (by decide) (fun K hK => ?_)
            refine goes_ Tryd.func27 (by kernel_rfl) rfl #[.agg #[.int .i64 x.f0, .int .i64 x.f1, .string x.f2, .slice A3 x.f3.length c3, .int .u64 x.f4], .int .u64 (lastS u es)] (by rfl) rfl rfl (by (try simp only [List.map_toArray, List.map_cons, List.map_nil]); first | done | rfl) ?_
            refine (sumE_calls x.f0 x.f1 x.f2 A3 c3 x.f3 x.f4 (lastS u es) _ (Kd.C_below HCx.out HQ0.out) (HE.out.tab.below (HB3.out.trans (HQ0.out.mono HB3.out.size))) (by have := HMM.out; omega) (by have := HMM.out; omega) (by have := HMM.out; omega) (by have := HMM.out; omega) (by have := HMM.out; omega) HSz.out HPs.out).mono ?_
            rintro e V2 ⟨rfl, hb⟩
            refine ⟨_, rfl, ?_⟩
            have HQ1 := Aside0.mk (HQ0.out.trans (hb.mono HQ0.out.size))
            clear hb
            refine hK.out _ _ ⟨pw_cell_below HQ1.out q0, pw_cell_below HQ1.out q1, pw_cell_below HQ1.out q2, pw_cell_below HQ1.out q3, pw_cell_below HQ1.out q4⟩ (fun hHeld => ?_)
            clear hK K
            refine norm_ (a' := ?_) ?_ ?_
            rotate_left
            · show Act.put _ (some 70) _ = _
              simp only [Act.put, List.setIfInBounds_toArray, List.set_cons_zero, List.set_cons_succ, i64_w, i32_w]
              rfl
            refine pure_ (i := 6) (N := (some 71)) (v := ?_) (a' := ?_) #[true, true, true, true, true, true, true, false] rfl rfl (any_of HT_.out (by kernel_rfl)) (fun _ _ _ h => h) (Or.inl ⟨by rfl, ?_⟩) ?_ ?_
            rotate_left
            · intro w'
              go_simp
              with_reducible rfl
            rotate_left
            · simp only [Act.put, List.setIfInBounds_toArray, List.set_cons_zero, List.set_cons_succ, i64_w, i32_w]
              rfl
            refine pure_ (i := 7) (N := (some 64)) (v := ?_) (a' := ?_) #[true, true, true, true, true, true, true, true] rfl rfl (any_of HT_.out (by kernel_rfl)) (fun _ _ _ h => h) (Or.inl ⟨by rfl, ?_⟩) ?_ ?_
            rotate_left
            · intro w'
              go_simp
              with_reducible rfl
            rotate_left
            · simp only [Act.put, List.setIfInBounds_toArray, List.set_cons_zero, List.set_cons_succ, i64_w, i32_w]
              rfl
            refine done_ (done_of HT_.out (by kernel_rfl)) ?_
            by_cases hsum : x.f4 = sumE (lastS u es) x.f0 x.f1 x.f2 x.f3
            · have HP : Aside0 (decB b = decG k (cutZ r) u (es ++ [x])) := ⟨by rw [← HG.out]; conv => lhs; unfold decG
                                                                               rw [if_neg HZ.out, if_neg (by rw [HF.out]; simp), if_neg (by rw [HK2.out]; simp), ← HXE.out, if_pos hsum]⟩
              have hsb : (x.f4 != sumE (lastS u es) x.f0 x.f1 x.f2 x.f3) = false := by rw [← hsum]; simp
              clear hsum
              have HB4 := Aside0.mk (HB3.out.trans (HQ1.out.mono HB3.out.size))
              have HC4 := Aside0.mk (HC3.out.below HQ1.out)
              have BX4 := Aside0.mk (blk_below BX3.out HQ1.out)
              have HR4 := Aside0.mk (Kd.R_below HR3.out HQ1.out)
              have hvlt : ∀ j, v.ownBlock = some j → j < w1.heap.size := Kd.R_lt HC1.out.row
              have hglt := blk_lt HC1.out.blk
              have hM : Aside0 (k30.M V2.drew w.heap.size (fun j => w1.heap.size ≤ j) x [.int .i64 x.f0, .int .i64 x.f1, .string x.f2, .slice A3 x.f3.length c3, .int .u64 x.f4]) := ⟨k30_mkM _ _ _ _ (Kd.R_drew (Kd.R_lower (Kd.R_mono (Kd.R_bound HR4.out) (fun _ hk => hk.2.1)) HB1.out.size))⟩
              have hV : Aside0 (∀ j, w1.heap.size ≤ j → nb g j ∧ some j ≠ v.ownBlock) := ⟨fun j hj => ⟨by show j ≠ g; omega, fun e => by have := hvlt j e.symm; omega⟩⟩
              have hw24 : w2.heap.size < V2.heap.size := blk_lt BX4.out
              have hF4 : Aside0 (∀ j, V2.drew.heap.size ≤ j → nb g j) := ⟨fun j hj => by have h1 : V2.heap.size ≤ j := hj; show j ≠ g; omega⟩
              have hR4 : Aside0 (k30.R 33 V2.drew w.heap.size (nb g) v es) := ⟨Kd.R_drew HC4.out.row⟩
              have hb4 : Aside0 (w.heap.size ≤ V2.drew.heap.size) := ⟨HB4.out.size⟩
              have hl4 : Aside0 ((es.length + 1) * 64 ≤ 140737488355328) := ⟨by have := HN.out; have := HS.out; omega⟩
              have hgv : Aside0 (some g ≠ v.ownBlock) := ⟨fun e => HC4.out.nok (HC4.out.row.1 g e.symm)⟩
              have hxv : Aside0 (some w2.heap.size ≠ v.ownBlock) := ⟨fun e => by have := hvlt _ e.symm; omega⟩
              have hgx : Aside0 (w2.heap.size ≠ g) := ⟨by omega⟩
              clear hvlt hglt hw24 q0 q1 q2 q3 q4 qs
              obtain ⟨q0, q1, q2, q3, q4, qs⟩ := five BX4.out
              obtain ⟨p0, p1, ps⟩ := two HC4.out.blk
              have HQ1 := Aside0.mk (below_drew (Below.refl V2.heap.size V2))
              go_wp2_with fail
              refine start_ (n := 11) (S := fun W => W.cell? ⟨g, 1, none⟩ = some v ∧ W.cell? ⟨w2.heap.size, 0, none⟩ = some (.int .i64 x.f0) ∧ W.cell? ⟨w2.heap.size, 1, none⟩ = some (.int .i64 x.f1) ∧ W.cell? ⟨w2.heap.size, 2, none⟩ = some (.string x.f2) ∧ W.cell? ⟨w2.heap.size, 3, none⟩ = some (.slice A3 x.f3.length c3) ∧ W.cell? ⟨w2.heap.size, 4, none⟩ = some (.int .u64 x.f4)) (ds := [10]) #[false, false, false, false, false, false, false, false, false, false, false] (by kernel_rfl) rfl rfl ⟨pw_cell_below HQ1.out p1, pw_cell_below HQ1.out q0, pw_cell_below HQ1.out q1, pw_cell_below HQ1.out q2, pw_cell_below HQ1.out q3, pw_cell_below HQ1.out q4⟩ (fun hHeld => ?_)
              refine with_tabW reg21_21.tab reg21_21.bits (fun HT_ HW_ => ?_)
              refine pure_ (i := 0) (N := (some 73)) (v := ?_) (a' := ?_) #[true, false, false, false, false, false, false, false, false, false, false] rfl rfl (any_of HT_.out (by kernel_rfl)) (fun _ _ _ h => h) (Or.inl ⟨by rfl, ?_⟩) ?_ ?_
              rotate_left
              · intro w'
                go_simp
                with_reducible rfl
              rotate_left
              · simp only [Act.put, List.setIfInBounds_toArray, List.set_cons_zero, List.set_cons_succ, i64_w, i32_w]
                rfl
              refine pure_ (i := 1) (N := (some 74)) (v := ?_) (a' := ?_) #[true, true, false, false, false, false, false, false, false, false, false] rfl rfl (any_of HT_.out (by kernel_rfl)) (fun _ _ _ h => h) (Or.inl ⟨by rfl, ?_⟩) ?_ ?_
              rotate_left
              · intro w'
                go_simp
                with_reducible rfl
              rotate_left
              · simp only [Act.put, List.setIfInBounds_toArray, List.set_cons_zero, List.set_cons_succ, i64_w, i32_w]
                rfl
              refine pure_ (i := 2) (N := (some 75)) (v := ?_) (a' := ?_) #[true, true, true, false, false, false, false, false, false, false, false] rfl rfl (any_of HT_.out (by kernel_rfl)) (fun _ _ _ h => h) (Or.inl ⟨by rfl, ?_⟩) ?_ ?_
              rotate_left
              · intro w'
                go_simp
                with_reducible rfl
              rotate_left
              · simp only [Act.put, List.setIfInBounds_toArray, List.set_cons_zero, List.set_cons_succ, i64_w, i32_w]
                rfl
              refine pure_ (i := 3) (N := (some 76)) (v := ?_) (a' := ?_) #[true, true, true, true, false, false, false, false, false, false, false] rfl rfl (any_of HT_.out (by kernel_rfl)) (fun _ _ _ h => h) (Or.inl ⟨by rfl, ?_⟩) ?_ ?_
              rotate_left
              · intro w'
                go_simp
                with_reducible rfl
              rotate_left
              · simp only [Act.put, List.setIfInBounds_toArray, List.set_cons_zero, List.set_cons_succ, i64_w, i32_w]
                rfl
              refine take_ (i := 4) (N := (some 77)) (v := ?_) (a' := ?_) #[true, true, true, true, true, false, false, false, false, false, false] rfl rfl (take_ofW HT_.out HW_.out (by kernel_rfl)) (fun _ _ _ h => h) (Or.inl ⟨by rfl, ?_⟩) hHeld ?_ ?_
              rotate_left
              · rintro w' ⟨s0, s1, s2, s3, s4, s5⟩
                go_simp
                with_reducible rfl
              rotate_left
              · simp only [Act.put, List.setIfInBounds_toArray, List.set_cons_zero, List.set_cons_succ, i64_w, i32_w]
                rfl
              refine take_ (i := 5) (N := (some 78)) (v := ?_) (a' := ?_) #[true, true, true, true, true, true, false, false, false, false, false] rfl rfl (take_ofW HT_.out HW_.out (by kernel_rfl)) (fun _ _ _ h => h) (Or.inl ⟨by rfl, ?_⟩) hHeld ?_ ?_
              rotate_left
              · rintro w' ⟨s0, s1, s2, s3, s4, s5⟩
                go_simp
                with_reducible rfl
              rotate_left
              · simp only [Act.put, List.setIfInBounds_toArray, List.set_cons_zero, List.set_cons_succ, i64_w, i32_w]
                rfl
              refine one_ (i := 6) (N := (some 79)) #[true, true, true, true, true, true, true, false, false, false, false] rfl rfl (one_of HT_.out (by kernel_rfl)) (by decide) (fun K hK => ?_)
              refine event_step (v := .slice (some ⟨V2.heap.size, 0, none⟩) 1 1) (w1 := V2.drew.alloc (.cells #[.int .i64 x.f0, .int .i64 x.f1, .string x.f2, .slice A3 x.f3.length c3, .int .u64 x.f4] 33)) (by rfl) (by first | (go_simp; done) | (go_simp; rfl)) ?_
              have HQ2 := Aside0.mk (below_alloc HQ1.out (.cells #[.int .i64 x.f0, .int .i64 x.f1, .string x.f2, .slice A3 x.f3.length c3, .int .u64 x.f4] 33))
              refine hK.out _ _ ⟨pw_cell_below HQ2.out p1, pw_cell_below HQ2.out q0, pw_cell_below HQ2.out q1, pw_cell_below HQ2.out q2, pw_cell_below HQ2.out q3, pw_cell_below HQ2.out q4⟩ (fun hHeld => ?_)
              clear hK K
              refine norm_ (a' := ?_) ?_ ?_
              rotate_left
              · show Act.put _ (some 79) _ = _
                simp only [Act.put, List.setIfInBounds_toArray, List.set_cons_zero, List.set_cons_succ, i64_w, i32_w]
                rfl
              refine one_ (i := 7) (N := (some 80)) #[true, true, true, true, true, true, true, true, false, false, false] rfl rfl (one_of HT_.out (by kernel_rfl)) (by decide) (fun K hK => ?_)
              refine Kd.R_append_step k30 (w0 := V2.drew) (W := V2.drew) w.heap.size (by rfl) _ _ 37 33 _ 64 rfl Tryd.underlying37 info33 rfl (by decide) (by decide) v es x [.int .i64 x.f0, .int .i64 x.f1, .string x.f2, .slice A3 x.f3.length c3, .int .u64 x.f4] (nb g) (fun j => w1.heap.size ≤ j) (by simp [Act.eval]) (by simp [Act.eval]) hM.out hV.out hF4.out hR4.out (Below.refl _ _) hb4.out hl4.out ?_
              intro v1 w5 hR5 _hb5 hg5 hat5
              obtain ⟨A5, c5, rfl⟩ := Kd.R_slice hR5
              have hL5 : (es ++ [x]).length = es.length + 1 := by simp
              rw [hL5] at hR5 ⊢
              clear hL5
              have HR5 := Aside0.mk hR5
              have HG5 := Aside0.mk hg5
              have B5 := Aside0.mk (blk_grown (blk_drew HC4.out.blk) hg5 hgv.out)
              have X5 := Aside0.mk (blk_grown (blk_drew BX4.out) hg5 hxv.out)
              clear hR5 _hb5 hg5 hat5
              refine hK.out _ _ ⟨(two B5.out).2.1, (five X5.out).1, (five X5.out).2.1, (five X5.out).2.2.1, (five X5.out).2.2.2.1, (five X5.out).2.2.2.2.1⟩ (fun hHeld => ?_)
              clear hK K
              refine norm_ (a' := ?_) ?_ ?_
              rotate_left
              · show Act.put _ (some 80) _ = _
                simp only [Act.put, List.setIfInBounds_toArray, List.set_cons_zero, List.set_cons_succ, i64_w, i32_w]
                rfl
              refine pure_ (i := 8) (N := (some 81)) (v := ?_) (a' := ?_) #[true, true, true, true, true, true, true, true, true, false, false] rfl rfl (any_of HT_.out (by kernel_rfl)) (fun _ _ _ h => h) (Or.inl ⟨by rfl, ?_⟩) ?_ ?_
              rotate_left
              · intro w'
                go_simp
                with_reducible rfl
              rotate_left
              · simp only [Act.put, List.setIfInBounds_toArray, List.set_cons_zero, List.set_cons_succ, i64_w, i32_w]
                rfl
              refine pure_ (i := 9) (N := (some 82)) (v := ?_) (a' := ?_) #[true, true, true, true, true, true, true, true, true, true, false] rfl rfl (any_of HT_.out (by kernel_rfl)) (fun _ _ _ h => h) (Or.inl ⟨by rfl, ?_⟩) ?_ ?_
              rotate_left
              · intro w'
                go_simp
                with_reducible rfl
              rotate_left
              · simp only [Act.put, List.setIfInBounds_toArray, List.set_cons_zero, List.set_cons_succ, i64_w, i32_w]
                rfl
              refine last_ (i := 10) (N := none) #[true, true, true, true, true, true, true, true, true, true, true] rfl rfl (one_of HT_.out (by kernel_rfl)) (by decide) (fun K hK => ?_)
              obtain ⟨s0, s1, ss⟩ := two B5.out
              have fs := blk_frozen B5.out
              refine skip_ (w1 := w5.setCell ⟨g, 1, none⟩ (.slice A5 (es.length + 1) c5)) (by rfl) rfl (by first | (go_simp; done) | (go_simp; rfl)) ?_
              clear s0 s1 ss fs
              have B6 := Aside0.mk (blk_set B5.out 1 (.slice A5 (es.length + 1) c5))
              refine hK.out _ _ ?_
              clear hK K
              refine done_ (done_of HT_.out (by kernel_rfl)) ?_
              have hbd := HN.out
              have hbd2 := HS.out
              go_wp2
              go_roundw
              case rel =>
                refine ⟨es.length + 2, cutZ r, by go_num, rfl, ⟨?_⟩, .inr ⟨g, .slice A5 (es.length + 1) c5, u, es ++ [x], k, rfl, by simp, ⟨?_⟩, ⟨HP.out.symm⟩, ⟨?_⟩, ⟨?_⟩⟩⟩
                · exact (HB4.out.drew.grown HG5.out HB4.out.size (fun j hj => Kd.R_base HC4.out.row j hj)).setCell HC4.out.ge _
                · exact ⟨B6.out, Kd.R_far (p := ⟨g, 1, none⟩) HR5.out (fun j hj => hj) _, HC4.out.ge, fun h => h rfl⟩
                · have h1 := HCL.out.2.2 HF.out; have h2 := HK.out; omega
                · have h1 := HCL.out.2.2 HF.out; have h2 := HN.out; omega
              case measure =>
                have h1 := HCL.out.2.2 HF.out
                have h0 : wrap64 ((es.length : Int) + 1 + 1) = es.length + 2 := by rw [w64 (by omega) (by omega)]; omega
                have e1 : ¬ ((es.length : Int) + 1 + 1 = 0) := by omega
                have e2 : ¬ ((es.length : Int) + 1 = 0) := by omega
                have e3 : ¬ ((es.length : Int) + 2 = 0) := by omega
                simp [intOf, h0, e1, e2, e3]
                omega
            · have HP : Aside0 (decB b = (none, es.length + 1, 4)) := ⟨by rw [← HG.out]; unfold decG; rw [if_neg HZ.out, if_neg (by rw [HF.out]; simp), if_neg (by rw [HK2.out]; simp), ← HXE.out, if_neg hsum]⟩
              have hsb : (x.f4 != sumE (lastS u es) x.f0 x.f1 x.f2 x.f3) = true := by simp [hsum]
              clear hsum
              go_wp2
              refine bodyPost_ret (results_tmp3 results21 _ _ _) rfl ?_
              rw [HP.out]
              exact ⟨rfl, HB3.out.trans (HQ1.out.mono HB3.out.size)⟩
end Go.Proofs.YtmbkmfdmpimegaaDoor
namespace Go.Proofs.YtmbkmfdmpimegaaDoor
open Go.RowKit Go.Lib

theorem parse_snoc : ∀ (l : List UInt8) (acc v : Nat) (c : UInt8), Lib.parseUint10 acc l = .ok v → 48 ≤ c.toNat ∧ c.toNat ≤ 57 → v * 10 + (c.toNat - 48) < 18446744073709551616 → Lib.parseUint10 acc (l ++ [c]) = .ok (v * 10 + (c.toNat - 48))
  | [], acc, v, c, h, hc, hv => by
    have e : acc = v := by simpa [Lib.parseUint10] using h
    subst e
    simp only [List.nil_append, Lib.parseUint10]
    rw [if_pos hc, if_neg (by omega), if_neg (by omega)]
  | a :: l, acc, v, c, h, hc, hv => by
    simp only [List.cons_append, Lib.parseUint10] at h ⊢
    split at h
    · next h1 =>
      split at h
      · cases h
      · next h2 =>
        split at h
        · cases h
        · next h3 =>
          rw [if_pos h1, if_neg h2, if_neg h3]
          exact parse_snoc l _ v c h hc hv
    · cases h
theorem parse_dec : ∀ (n u : Nat), u < n → u < 18446744073709551616 → Lib.parseUint10 0 (Lib.decDigits u) = .ok u
  | 0, u, h, _ => by omega
  | n + 1, u, h, hu => by
    by_cases h9 : u < 10
    · rw [Lib.decDigits_one h9]
      have e : (UInt8.ofNat (48 + u)).toNat = 48 + u := by simp; omega
      simp only [Lib.parseUint10, e]
      rw [if_pos (by omega), if_neg (by omega), if_neg (by omega)]
      simp
    · rw [Lib.decDigits, dif_neg h9]
      have e : (UInt8.ofNat (48 + u % 10)).toNat = 48 + u % 10 := by simp; omega
      rw [parse_snoc _ 0 (u / 10) _ (parse_dec n (u / 10) (by omega) (by omega)) (by omega) (by omega), e]
      congr 1; omega
theorem puB_utoa (u : Nat) (hu : u < 18446744073709551616) : puB (utoaB u) = (u, true) := by
  have h : Lib.parseUintB 64 (utoaB u).data.toList = .ok u := by
    rw [Lib.parseUintB_64]
    unfold Lib.parseMag utoaB
    have hne : Lib.decDigits u ≠ [] := by
      intro h
      have h2 := Lib.decDigits_length u
      rw [h] at h2
      have h3 := Lib.nDigits_pos u
      simp at h2; omega
    rw [if_neg (by simpa using hne)]
    simpa using parse_dec (u + 1) u (by omega) hu
  unfold puB
  rw [h]
theorem dec_digit : ∀ (n u : Nat), u < n → ∀ c ∈ Lib.decDigits u, 48 ≤ c.toNat ∧ c.toNat ≤ 57
  | 0, u, h => by omega
  | n + 1, u, h => by
    intro c hc
    by_cases h9 : u < 10
    · rw [Lib.decDigits_one h9] at hc
      obtain rfl := List.mem_singleton.1 hc
      have e : (UInt8.ofNat (48 + u)).toNat = 48 + u := by simp; omega
      omega
    · rw [Lib.decDigits, dif_neg h9] at hc
      rcases List.mem_append.1 hc with hc | hc
      · exact dec_digit n (u / 10) (by omega) c hc
      · obtain rfl := List.mem_singleton.1 hc
        have e : (UInt8.ofNat (48 + u % 10)).toNat = 48 + u % 10 := by simp; omega
        omega
theorem piB_itoa (n : Int) (h0 : 0 ≤ n) (h1 : n ≤ 9223372036854775807) : piB (itoaB n) = (n, true) := by
  obtain ⟨u, rfl⟩ : ∃ u : Nat, n = u := ⟨n.toNat, by omega⟩
  have hd : (itoaB (u : Int)).data.toList = Lib.decDigits u := by simp [itoaB, Lib.itoa_nonneg]
  have hp := parse_dec (u + 1) u (by omega) (by omega)
  have hc := dec_digit (u + 1) u (by omega)
  have h : Lib.atoiAll (itoaB (u : Int)).data.toList = .ok (u : Int) := by
    rw [hd]
    cases hl : Lib.decDigits u with
    | nil =>
      have h2 := Lib.decDigits_length u
      rw [hl] at h2
      have h3 := Lib.nDigits_pos u
      simp at h2; omega
    | cons c r =>
      rw [hl] at hp hc
      have h4 := hc c List.mem_cons_self
      rw [Lib.atoiAll_plain c r (by omega) (by omega)]
      unfold Lib.parseMag
      rw [if_neg (by simp), hp]
      show (if 9223372036854775808 ≤ u then _ else _) = _
      rw [if_neg (by omega)]
  unfold piB
  rw [h]
end Go.Proofs.YtmbkmfdmpimegaaDoor
namespace Go.Proofs.YtmbkmfdmpimegaaDoor
open Go.RowKit Go.Lib

theorem idx_none (c : UInt8) : ∀ (a : List UInt8), c ∉ a → Lib.indexByte a c = -1
  | [], _ => rfl
  | b :: l, h => by
    have h1 : ¬ b = c := fun e => h (by simp [e])
    have h2 := idx_none c l (fun hh => h (List.mem_cons_of_mem _ hh))
    unfold Lib.indexByte
    simp [h1, h2]
theorem idx_at (c : UInt8) : ∀ (a l : List UInt8), c ∉ a → Lib.indexByte (a ++ c :: l) c = a.length
  | [], l, _ => by simp [Lib.indexByte]
  | b :: a, l, h => by
    have h1 : ¬ b = c := fun e => h (by simp [e])
    have h2 := idx_at c a l (fun hh => h (List.mem_cons_of_mem _ hh))
    rw [List.cons_append]
    unfold Lib.indexByte
    simp [h1, h2]
theorem splitK_join (c : UInt8) : ∀ (r : List (List UInt8)) (x : List UInt8), (∀ w ∈ x :: r, c ∉ w) → Lib.splitK [c] 0 r.length (Lib.join (x :: r) [c]) = x :: r
  | [], x, h => by simp [Lib.join_one, Lib.splitK]
  | y :: r, x, h => by
    have hx := h x List.mem_cons_self
    have ih := splitK_join c r y (fun w hw => h w (List.mem_cons_of_mem _ hw))
    have e : Lib.join (x :: y :: r) [c] = x ++ c :: Lib.join (y :: r) [c] := by simp [Lib.join_cons, Lib.joinTail]
    rw [e, List.length_cons]
    unfold Lib.splitK
    rw [Lib.index_one, idx_at c x _ hx, if_neg (by simp)]
    simp only [Int.toNat_natCast, Nat.add_zero, List.take_left', List.length_singleton]
    rw [show x ++ c :: Lib.join (y :: r) [c] = (x ++ [c]) ++ Lib.join (y :: r) [c] from by simp, List.drop_left' (by simp), ih]
theorem count_join (c : UInt8) : ∀ (r : List (List UInt8)) (x : List UInt8), (∀ w ∈ x :: r, c ∉ w) → (Lib.join (x :: r) [c]).count c = r.length
  | [], x, h => by rw [Lib.join_one]; exact List.count_eq_zero.2 (h x List.mem_cons_self)
  | y :: r, x, h => by
    have ih := count_join c r y (fun w hw => h w (List.mem_cons_of_mem _ hw))
    have e : Lib.join (x :: y :: r) [c] = x ++ c :: Lib.join (y :: r) [c] := by simp [Lib.join_cons, Lib.joinTail]
    rw [e, List.count_append, List.count_eq_zero.2 (h x List.mem_cons_self), List.count_cons_self, ih]
    simp
theorem map_data_inj : ∀ (a b : List ByteArray), a.map (·.data.toList) = b.map (·.data.toList) → a = b
  | [], [], _ => rfl
  | [], _ :: _, h => by simp at h
  | _ :: _, [], h => by simp at h
  | x :: a, y :: b, h => by
    simp only [List.map_cons, List.cons.injEq] at h
    rw [ba_ext h.1, map_data_inj a b h.2]
theorem parts_join (c : UInt8) (x : ByteArray) (r : List ByteArray) (h : ∀ w ∈ x :: r, c ∉ w.data.toList) : partsB c (joinB (x :: r) ⟨#[c]⟩) = x :: r := by
  have h' : ∀ w ∈ x.data.toList :: r.map (·.data.toList), c ∉ w := by
    intro w hw
    have hw' : w ∈ (x :: r).map (·.data.toList) := by simpa using hw
    obtain ⟨z, hz, rfl⟩ := List.mem_map.1 hw'
    exact h z hz
  apply map_data_inj
  unfold partsB
  rw [Lib.splitB_data]
  have hj : (joinB (x :: r) ⟨#[c]⟩).data.toList = Lib.join (x.data.toList :: r.map (·.data.toList)) [c] := by simp [joinB]
  have hc : Lib.countB (joinB (x :: r) ⟨#[c]⟩) ⟨#[c]⟩ = r.length := by
    show Lib.count (joinB (x :: r) ⟨#[c]⟩).data.toList [c] = r.length
    rw [Lib.count_one, hj, count_join c _ _ h', List.length_map]
  rw [hc, hj]
  have := splitK_join c (r.map (·.data.toList)) x.data.toList h'
  rw [List.length_map] at this
  simpa using this
end Go.Proofs.YtmbkmfdmpimegaaDoor
namespace Go.Proofs.YtmbkmfdmpimegaaDoor
open Go.RowKit Go.Lib Go.Proofs.YtmbkmfdmpimegaaDoor.PR

theorem name_byte {s : ByteArray} (h : nameB s = true) : ∀ c ∈ s.data.toList, c.toNat ≠ 32 ∧ c.toNat ≠ 44 ∧ c.toNat ≠ 46 ∧ c.toNat ≠ 10 := by
  intro c hc
  simp only [nameB, Bool.and_eq_true, List.all_eq_true] at h
  have := h.2 c hc
  simp [okC, oddR] at this
  omega
theorem dec_byte (u : Nat) : ∀ c ∈ Lib.decDigits u, c.toNat ≠ 32 ∧ c.toNat ≠ 44 ∧ c.toNat ≠ 10 := by
  intro c hc
  have := dec_digit (u + 1) u (by omega) c hc
  omega
theorem itoa_data (n : Int) (h : 0 ≤ n) : (itoaB n).data.toList = Lib.decDigits n.toNat := by
  obtain ⟨u, rfl⟩ : ∃ u : Nat, n = u := ⟨n.toNat, by omega⟩
  simp [itoaB, Lib.itoa_nonneg]
theorem join_mem (c : UInt8) : ∀ (r : List (List UInt8)) (x : List UInt8) (b : UInt8), b ∈ Lib.join (x :: r) [c] → b = c ∨ ∃ w ∈ x :: r, b ∈ w
  | [], x, b, h => by
    rw [Lib.join_one] at h
    exact .inr ⟨x, List.mem_cons_self, h⟩
  | y :: r, x, b, h => by
    have e : Lib.join (x :: y :: r) [c] = x ++ c :: Lib.join (y :: r) [c] := by simp [Lib.join_cons, Lib.joinTail]
    rw [e] at h
    rcases List.mem_append.1 h with h | h
    · exact .inr ⟨x, List.mem_cons_self, h⟩
    · rcases List.mem_cons.1 h with h | h
      · exact .inl h
      · rcases join_mem c r y b h with h | ⟨w, hw, hb⟩
        · exact .inl h
        · exact .inr ⟨w, List.mem_cons_of_mem _ hw, hb⟩
theorem items_byte (is : List ByteArray) (h : ∀ s ∈ is, nameB s = true) : ∀ c ∈ (itemsB is).data.toList, c.toNat ≠ 32 ∧ c.toNat ≠ 10 := by
  intro c hc
  unfold itemsB at hc
  cases is with
  | nil =>
    have : c = 46 := by simpa using hc
    subst this; decide
  | cons a l =>
    rw [if_pos (by simp)] at hc
    have hj : c ∈ Lib.join (a.data.toList :: l.map (·.data.toList)) [44] := by simpa [joinB] using hc
    rcases join_mem 44 _ _ c hj with rfl | ⟨w, hw, hb⟩
    · decide
    · have hw' : w ∈ (a :: l).map (·.data.toList) := by simpa using hw
      obtain ⟨z, hz, rfl⟩ := List.mem_map.1 hw'
      have := name_byte (h z hz) c hb
      exact ⟨this.1, this.2.2.2⟩
theorem parts_line (x : S30) (hx : Fine x) : partsB 32 (lineB x) = [itoaB x.f0, itoaB x.f1, x.f2, itemsB x.f3, utoaB x.f4.toNat] := by
  have hm := mayE_parts hx.1
  unfold lineB
  refine parts_join 32 _ _ (fun w hw => ?_)
  simp only [List.mem_cons, List.not_mem_nil, or_false] at hw
  rcases hw with rfl | rfl | rfl | rfl | rfl
  · rw [itoa_data _ hm.1]; exact fun h => (dec_byte _ _ h).1 rfl
  · rw [itoa_data _ hm.2.2.1]; exact fun h => (dec_byte _ _ h).1 rfl
  · exact fun h => (name_byte hm.2.2.2.2.1 _ h).1 rfl
  · exact fun h => (items_byte _ hm.2.2.2.2.2.2 _ h).1 rfl
  · exact fun h => (dec_byte _ _ (by simpa [utoaB] using h)).1 rfl
theorem items_back (is : List ByteArray) (h : ∀ s ∈ is, nameB s = true) : (if itemsB is = ⟨#[46]⟩ then [] else partsB 44 (itemsB is)) = is := by
  cases is with
  | nil => exact if_pos rfl
  | cons a l =>
    have e : itemsB (a :: l) = joinB (a :: l) ⟨#[44]⟩ := by unfold itemsB; rw [if_pos (by simp)]
    have hp := parts_join 44 a l (fun w hw hh => (name_byte (h w hw) _ hh).2.1 rfl)
    rw [e, if_neg, hp]
    intro h46
    rw [h46] at hp
    have h2 : partsB 44 ⟨#[46]⟩ = [⟨#[46]⟩] := by decide
    rw [h2] at hp
    have ha : a = ⟨#[46]⟩ := by injection hp with h1 _; exact h1.symm
    exact (name_byte (h a List.mem_cons_self) 46 (by rw [ha]; decide)).2.2.1 rfl
theorem ent_back (x : S30) (hx : Fine x) : entP (lineB x) = (x, true) := by
  have hm := mayE_parts hx.1
  have hu : puB (utoaB x.f4.toNat) = (x.f4.toNat, true) := puB_utoa _ (by have := hx.2; omega)
  have e4 : ((x.f4.toNat : Nat) : Int) = x.f4 := by have := hx.2.1; omega
  unfold entP
  rw [parts_line x hx]
  show ent5 _ _ _ _ _ _ = _
  unfold ent5
  rw [piB_itoa _ hm.1 (by omega), piB_itoa _ hm.2.2.1 (by omega), hu, items_back _ hm.2.2.2.2.2.2]
  simp only [e4, hx.1]
  simp
end Go.Proofs.YtmbkmfdmpimegaaDoor
namespace Go.Proofs.YtmbkmfdmpimegaaDoor
open Go.RowKit Go.Lib Go.Proofs.YtmbkmfdmpimegaaDoor.PR

/-- entries that may be, each with its sum -/
def rightFrom (u : Int) : List S30 → List S30 → Prop
  | _, [] => True
  | acc, x :: l => Fine x ∧ x.f4 = sumE (lastS u acc) x.f0 x.f1 x.f2 x.f3 ∧ rightFrom u (acc ++ [x]) l
theorem right_snoc (u : Int) : ∀ (l acc : List S30) (x : S30), rightFrom u acc l → Fine x → x.f4 = sumE (lastS u (acc ++ l)) x.f0 x.f1 x.f2 x.f3 → rightFrom u acc (l ++ [x])
  | [], acc, x, _, hx, hs => ⟨hx, by simpa using hs, trivial⟩
  | y :: l, acc, x, h, hx, hs => ⟨h.1, h.2.1, right_snoc u l (acc ++ [y]) x h.2.2 hx (by simpa using hs)⟩
theorem adds_right (u : Int) : ∀ (l acc : List S30), rightFrom u [] acc → rightFrom u [] (adds u acc l)
  | [], acc, h => h
  | x :: l, acc, h => by
    refine adds_right u l _ ?_
    unfold addE
    by_cases hm : mayE x.f0 x.f1 x.f2 x.f3 = true
    · rw [if_pos hm]
      exact right_snoc u acc [] _ h ⟨hm, sumE_range _ _ _ _ _⟩ (by simp)
    · rw [if_neg hm]; exact h
theorem line_byte (x : S30) (hx : Fine x) : ∀ c ∈ (lineB x).data.toList, c.toNat ≠ 10 := by
  have hm := mayE_parts hx.1
  intro c hc
  have hj : c ∈ Lib.join ((itoaB x.f0).data.toList :: [itoaB x.f1, x.f2, itemsB x.f3, utoaB x.f4.toNat].map (·.data.toList)) [32] := by simpa [lineB, joinB] using hc
  rcases join_mem 32 _ _ c hj with rfl | ⟨w, hw, hb⟩
  · decide
  · simp only [List.map_cons, List.map_nil, List.mem_cons, List.not_mem_nil, or_false] at hw
    rcases hw with rfl | rfl | rfl | rfl | rfl
    · rw [itoa_data _ hm.1] at hb; exact (dec_byte _ _ hb).2.2
    · rw [itoa_data _ hm.2.2.1] at hb; exact (dec_byte _ _ hb).2.2
    · exact (name_byte hm.2.2.2.2.1 _ hb).2.2.2
    · exact (items_byte _ hm.2.2.2.2.2.2 _ hb).2
    · exact (dec_byte _ _ (by simpa [utoaB] using hb)).2.2
theorem cut_line (a t : ByteArray) (h : ∀ c ∈ a.data.toList, c.toNat ≠ 10) : cutA (a ++ ⟨#[10]⟩ ++ t) = a ∧ cutZ (a ++ ⟨#[10]⟩ ++ t) = t ∧ cutF (a ++ ⟨#[10]⟩ ++ t) = true := by
  have e : (a ++ ⟨#[10]⟩ ++ t).data.toList = a.data.toList ++ 10 :: t.data.toList := by simp
  have hi : Lib.index (a.data.toList ++ 10 :: t.data.toList) [10] = a.data.toList.length := by
    rw [Lib.index_one]
    exact idx_at 10 _ _ (fun hh => h 10 hh rfl)
  unfold cutA cutZ cutF Lib.cut
  rw [e, hi, if_pos (by omega)]
  refine ⟨ba_ext ?_, ba_ext ?_, rfl⟩
  · simp
  · show (List.drop _ _) = _
    rw [show a.data.toList ++ 10 :: t.data.toList = (a.data.toList ++ [10]) ++ t.data.toList from by simp]
    exact List.drop_left' (by simp)
theorem cut_none (t : ByteArray) (h : ∀ c ∈ t.data.toList, c.toNat ≠ 10) : cutF t = false := by
  unfold cutF Lib.cut
  rw [Lib.index_one, idx_none 10 _ (fun hh => h 10 hh rfl), if_neg (by decide)]
end Go.Proofs.YtmbkmfdmpimegaaDoor
namespace Go.Proofs.YtmbkmfdmpimegaaDoor
open Go.RowKit Go.Lib Go.Proofs.YtmbkmfdmpimegaaDoor.PR

/-- lines, each with its end -/
def flat : List (List UInt8) → List UInt8
  | [] => []
  | a :: l => a ++ 10 :: flat l
theorem flat_append : ∀ (l m : List (List UInt8)), flat (l ++ m) = flat l ++ flat m
  | [], m => rfl
  | a :: l, m => by simp [flat, flat_append l m]
theorem flat_count : ∀ (l : List (List UInt8)), (∀ a ∈ l, (10 : UInt8) ∉ a) → (flat l).count 10 = l.length
  | [], _ => rfl
  | a :: l, h => by
    rw [flat, List.count_append, List.count_eq_zero.2 (h a List.mem_cons_self), List.count_cons_self, flat_count l (fun b hb => h b (List.mem_cons_of_mem _ hb))]
    simp
theorem flat_take : ∀ (ls : List (List UInt8)) (cut : Nat), (∀ a ∈ ls, (10 : UInt8) ∉ a) → ∃ j t, j ≤ ls.length ∧ (10 : UInt8) ∉ t ∧ (flat ls).take cut = flat (ls.take j) ++ t
  | [], cut, _ => ⟨0, [], Nat.le_refl _, by simp, by simp [flat]⟩
  | a :: ls, cut, h => by
    have ha := h a List.mem_cons_self
    by_cases hc : cut ≤ a.length
    · refine ⟨0, a.take cut, Nat.zero_le _, fun hm => ha (List.mem_of_mem_take hm), ?_⟩
      rw [flat, List.take_append_of_le_length hc]
      rfl
    · obtain ⟨j, t, hj, ht, he⟩ := flat_take ls (cut - (a.length + 1)) (fun b hb => h b (List.mem_cons_of_mem _ hb))
      refine ⟨j + 1, t, by simp; omega, ht, ?_⟩
      have e : flat (a :: ls) = (a ++ [10]) ++ flat ls := by simp [flat]
      have e2 : cut = (a ++ [10]).length + (cut - (a.length + 1)) := by simp; omega
      rw [e, e2, List.take_length_add_append, he]
      simp [flat, List.take_succ_cons]
theorem flat_last : ∀ (l : List (List UInt8)), l ≠ [] → ∃ f, flat l = f ++ [10]
  | [], h => absurd rfl h
  | [a], _ => ⟨a, by simp [flat]⟩
  | a :: b :: l, _ => by
    obtain ⟨f, hf⟩ := flat_last (b :: l) (by simp)
    exact ⟨a ++ 10 :: f, by rw [flat, hf]; simp⟩
def linesL (es : List S30) : List (List UInt8) := es.map fun x => (lineB x).data.toList
theorem encFrom_data : ∀ (es : List S30) (acc : ByteArray), (encFrom acc es).data.toList = acc.data.toList ++ flat (linesL es)
  | [], acc => by simp [encFrom, linesL, flat]
  | x :: l, acc => by
    rw [encFrom, encFrom_data l]
    simp [linesL, flat]
theorem encB_data (u : Nat) (es : List S30) : (encB u es).data.toList = flat ((beginB u).data.toList :: linesL es) := by
  rw [encB, encFrom_data]
  simp [flat]
theorem begin_byte (u : Nat) : ∀ c ∈ (beginB u).data.toList, c.toNat ≠ 10 := by
  intro c hc
  have hc' : c ∈ ([97, 117, 100, 105, 116, 32] : List UInt8) ++ Lib.decDigits u := by simpa [beginB, utoaB] using hc
  rcases List.mem_append.1 hc' with h | h
  · simp only [List.mem_cons, List.not_mem_nil, or_false] at h
    rcases h with rfl | rfl | rfl | rfl | rfl | rfl <;> decide
  · exact (dec_byte _ _ h).2.2
theorem lines_no (u : Nat) (es : List S30) (hf : ∀ x ∈ es, Fine x) : ∀ a ∈ (beginB u).data.toList :: linesL es, (10 : UInt8) ∉ a := by
  intro a ha hm
  rcases List.mem_cons.1 ha with rfl | ha
  · exact begin_byte u 10 hm rfl
  · obtain ⟨x, hx, rfl⟩ := List.mem_map.1 ha
    exact line_byte x (hf x hx) 10 hm rfl
theorem right_fine (u : Int) : ∀ (l acc : List S30), rightFrom u acc l → ∀ x ∈ l, Fine x
  | [], _, _, x, hx => by simp at hx
  | y :: l, acc, h, x, hx => by
    rcases List.mem_cons.1 hx with rfl | hx
    · exact h.1
    · exact right_fine u l _ h.2.2 x hx
theorem right_take (u : Int) : ∀ (l acc : List S30) (j : Nat), rightFrom u acc l → rightFrom u acc (l.take j)
  | l, acc, 0, _ => by rw [List.take_zero]; trivial
  | [], acc, j + 1, h => h
  | x :: l, acc, j + 1, h => ⟨h.1, h.2.1, right_take u l _ j h.2.2⟩
/-- what the lines behind the first one are read as -/
theorem decG_lines (u : Nat) : ∀ (l acc : List S30) (k : Nat) (t r : ByteArray), r.data.toList = flat (linesL l) ++ t.data.toList → (10 : UInt8) ∉ t.data.toList → rightFrom u acc l → r.size < k →
    decG k r u acc = if t.data.toList = [] then (some (u, acc ++ l), (acc ++ l).length + 1, 0) else (none, (acc ++ l).length + 1, 3)
  | [], acc, k, t, r, hr, ht, _, hk => by
    obtain ⟨k, rfl⟩ : ∃ m, k = m + 1 := ⟨k - 1, by omega⟩
    have e : r = t := ba_ext (by simpa [linesL, flat] using hr)
    subst e
    unfold decG
    rw [ByteArray.toList_eq, List.append_nil]
    by_cases h : r.data.toList = []
    · rw [if_pos h, if_pos h]
    · rw [if_neg h, if_neg h, if_pos (cut_none r (fun c hc e => ht (by have : c = 10 := UInt8.toNat_inj.1 e; rwa [← this])))]
  | x :: l, acc, k, t, r, hr, ht, hR, hk => by
    obtain ⟨k, rfl⟩ : ∃ m, k = m + 1 := ⟨k - 1, by omega⟩
    obtain ⟨z, hz⟩ : ∃ z : ByteArray, z.data.toList = flat (linesL l) ++ t.data.toList := ⟨⟨(flat (linesL l) ++ t.data.toList).toArray⟩, by simp⟩
    have e : r = lineB x ++ ⟨#[10]⟩ ++ z := ba_ext (by rw [hr]; simp [linesL, flat, hz])
    obtain ⟨hA, hZ, hF⟩ := cut_line (lineB x) z (line_byte x hR.1)
    rw [← e] at hA hZ hF
    have hne : ¬ r.toList = [] := by rw [ByteArray.toList_eq, hr]; simp [linesL, flat]
    have hsz : z.size < k := by
      have h1 := (cut_le r).2.2 hF
      rw [hZ] at h1; omega
    have ih := decG_lines u l (acc ++ [x]) k t z hz ht hR.2.2 hsz
    have hE := ent_back x hR.1
    unfold decG
    rw [if_neg hne, if_neg (by rw [hF]; simp), hA, hE, if_neg (by simp), if_pos hR.2.1, hZ, ih]
    simp
theorem trim_begin (u : Nat) : trimB (beginB u) = utoaB u := by
  apply ba_ext
  have e : (beginB u).data.toList = ([97, 117, 100, 105, 116, 32] : List UInt8) ++ (utoaB u).data.toList := by simp [beginB]
  show (Lib.trimPrefix (beginB u).data.toList [97, 117, 100, 105, 116, 32]) = _
  rw [e]
  unfold Lib.trimPrefix
  rw [if_pos (by simp [Lib.hasPrefix])]
  exact List.drop_left' rfl
theorem decB_none (b : ByteArray) (h : (10 : UInt8) ∉ b.data.toList) : decB b = (none, 0, 3) := by
  unfold decB
  rw [if_pos (cut_none b (fun c hc e => h (by have : c = 10 := UInt8.toNat_inj.1 e; rwa [← this])))]
theorem decB_lines (u : Nat) (hu : u < 18446744073709551616) (l : List S30) (t b : ByteArray) (hb : b.data.toList = flat ((beginB u).data.toList :: linesL l) ++ t.data.toList) (ht : (10 : UInt8) ∉ t.data.toList) (hR : rightFrom u [] l) :
    decB b = if t.data.toList = [] then (some (u, l), l.length + 1, 0) else (none, l.length + 1, 3) := by
  obtain ⟨z, hz⟩ : ∃ z : ByteArray, z.data.toList = flat (linesL l) ++ t.data.toList := ⟨⟨(flat (linesL l) ++ t.data.toList).toArray⟩, by simp⟩
  have e : b = beginB u ++ ⟨#[10]⟩ ++ z := ba_ext (by rw [hb]; simp [flat, hz])
  obtain ⟨hA, hZ, hF⟩ := cut_line (beginB u) z (begin_byte u)
  rw [← e] at hA hZ hF
  have hsz : z.size < b.size + 1 := by
    have h1 := (cut_le b).2.2 hF
    rw [hZ] at h1; omega
  have ih := decG_lines u l [] (b.size + 1) t z hz ht hR hsz
  unfold decB
  rw [if_neg (by rw [hF]; simp), hA, trim_begin, puB_utoa u hu, if_neg (by simp), if_pos rfl, hZ]
  simpa using ih
/-- a chain's bytes are read as that chain -/
theorem decB_enc (u : Nat) (hu : u < 18446744073709551616) (l : List S30) (hR : rightFrom u [] l) : decB (encB u l) = (some (u, l), l.length + 1, 0) := by
  have h := decB_lines u hu l ⟨#[]⟩ (encB u l) (by rw [encB_data]; simp) (by simp) hR
  simpa using h
/-- the bytes of a chain, cut anywhere -/
theorem decB_cut (u : Nat) (hu : u < 18446744073709551616) (es : List S30) (hR : rightFrom u [] es) (cut : Nat) (hc : cut ≤ (encB u es).size) (b : ByteArray) (hb : b.data.toList = (encB u es).data.toList.take cut) :
    ((cut = 0 ∨ (encB u es).data.toList[cut - 1]? ≠ some 10) ∧ decB b = (none, b.data.toList.count 10, 3)) ∨
      (0 < cut ∧ (encB u es).data.toList[cut - 1]? = some 10 ∧ ∃ j, j ≤ es.length ∧ b.data.toList.count 10 = j + 1 ∧ decB b = (some (u, es.take j), j + 1, 0)) := by
  have hlen : (encB u es).data.toList.length = (encB u es).size := by simp
  have hno := lines_no u es (right_fine u es [] hR)
  obtain ⟨j, t, hj, ht, he⟩ := flat_take ((beginB u).data.toList :: linesL es) cut hno
  rw [← encB_data, ← hb] at he
  have hbl : b.data.toList.length = cut := by rw [hb, List.length_take]; omega
  have hno' : ∀ a ∈ ((beginB u).data.toList :: linesL es).take j, (10 : UInt8) ∉ a := fun a ha => hno a (List.mem_of_mem_take ha)
  have hcount : b.data.toList.count 10 = j := by
    rw [he, List.count_append, flat_count _ hno', List.count_eq_zero.2 ht, List.length_take]
    omega
  have hget : 0 < cut → (encB u es).data.toList[cut - 1]? = b.data.toList[cut - 1]? := fun hi => by rw [hb, List.getElem?_take, if_pos (by omega)]
  have hlines : ∀ i, ((beginB u).data.toList :: linesL es).take (i + 1) = (beginB u).data.toList :: linesL (es.take i) := fun i => by rw [List.take_succ_cons]; unfold linesL; rw [List.map_take]
  have hjl : j ≤ es.length + 1 := by simpa [linesL] using hj
  rw [hcount]
  by_cases ht0 : t = []
  · subst ht0
    rw [List.append_nil] at he
    cases j with
    | zero =>
      have e0 : b.data.toList = [] := by rw [he]; rfl
      refine .inl ⟨.inl (by rw [← hbl, e0]; rfl), decB_none b (by rw [e0]; simp)⟩
    | succ j =>
      obtain ⟨f, hf⟩ := flat_last (((beginB u).data.toList :: linesL es).take (j + 1)) (by rw [hlines]; simp)
      rw [hf] at he
      have h0 : 0 < cut := by rw [← hbl, he]; simp
      refine .inr ⟨h0, ?_, j, by omega, rfl, ?_⟩
      · rw [hget h0, he, ← hbl, he]; simp
      · have h := decB_lines u hu (es.take j) ⟨#[]⟩ b (by rw [he, ← hf, hlines]; simp) (by simp) (right_take u es [] j hR)
        rw [if_pos rfl] at h
        rw [h, List.length_take]
        congr 2; omega
  · have htl : 0 < t.length := List.length_pos_iff.2 ht0
    have h0 : 0 < cut := by rw [← hbl, he]; simp; omega
    refine .inl ⟨.inr ?_, ?_⟩
    · rw [hget h0, ← hbl, he]
      rw [List.length_append, List.getElem?_append_right (by omega)]
      intro h
      exact ht (List.mem_of_getElem? h)
    · cases j with
      | zero =>
        refine decB_none b ?_
        rw [he]
        simpa [flat] using ht
      | succ j =>
        have h := decB_lines u hu (es.take j) ⟨t.toArray⟩ b (by rw [he, hlines]) (by simpa using ht) (right_take u es [] j hR)
        rw [if_neg (by simpa using ht0)] at h
        rw [h, List.length_take]
        congr 2; omega
/-- of entries that are right each is right -/
theorem check_right (u : Int) : ∀ (l acc : List S30) (k : Nat), rightFrom u acc l → checkE (lastS u acc) l k = (k + l.length : Nat)
  | [], acc, k, _ => rfl
  | x :: l, acc, k, h => by
    unfold checkE
    rw [if_pos h.1.1, if_pos h.2.1]
    have ih := check_right u l (acc ++ [x]) (k + 1) h.2.2
    rw [lastS_snoc] at ih
    rw [ih, List.length_cons]
    congr 1; omega
end Go.Proofs.YtmbkmfdmpimegaaDoor
