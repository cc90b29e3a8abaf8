/-
  The walks of event.Name and clock's name. The walk of the clock's Hear.
-/
import Derived.Test.YtmmfoeckggpgdaaGreatDoorJ2
import Derived.Test.YtmmfoeckggpgdaaGreatDoorShelf
namespace Go.Proofs.YtmmfoeckggpgdaaGreatDoor
open Go.RowKit Go.Lib Go.Proofs.YtmmfoeckggpgdaaGreatDoorW.PrintWords

/-- a rune that stands in no name -/
def oddR (r : Nat) : Bool := !(decide (97 ≤ r) && decide (r ≤ 122) || decide (48 ≤ r) && decide (r ≤ 57) || decide (r = 45))
def okC (c : UInt8) : Bool := !oddR c.toNat
def nameB (s : ByteArray) : Bool := decide (1 ≤ s.size) && decide (s.size ≤ 24) && s.data.toList.all okC

theorem decodeN_big (n b0 b1 b2 b3 : Nat) (h : 128 ≤ b0) : 128 ≤ (decodeN n b0 b1 b2 b3).1 := by
  unfold decodeN
  rw [if_neg (by omega)]
  repeat' split
  all_goals (simp; try omega)
theorem oddR_big {r : Nat} (h : 128 ≤ r) : oddR r = true := by
  unfold oddR
  simp; omega
theorem byte_get (s : ByteArray) (i : Nat) (h : i < s.size) : s.get! i = s[i] := by
  show s.data[i]! = s.data[i]
  rw [getElem!_pos s.data i h]
theorem idx_from_bad (s : ByteArray) : ∀ (f pos : Nat), s.size ≤ pos + f → (0 ≤ idxFuncFrom oddR true s f pos ↔ (s.data.toList.drop pos).any (fun c => !okC c) = true)
  | 0, pos, h => by
    rw [List.drop_of_length_le (by simpa using h)]
    simp [idxFuncFrom]
  | f + 1, pos, h => by
    unfold idxFuncFrom
    by_cases hp : pos < s.size
    · rw [if_pos hp, List.drop_eq_getElem_cons (by simpa using hp), List.any_cons]
      have hg : (s.data.toList[pos]'(by simpa using hp)) = s[pos] := rfl
      rw [hg]
      by_cases h8 : s[pos].toNat < 128
      · have hd : Utf8.decode s pos = (s[pos].toNat, 1) := by rw [decode_at, byte_get s pos hp]; exact by simp [decodeN, h8]
        rw [hd]
        by_cases ho : oddR s[pos].toNat = true
        · rw [if_pos ho]; simp [okC, ho]
        · rw [if_neg ho]
          have := idx_from_bad s f (pos + 1) (by omega)
          rw [this]
          have ho' : oddR s[pos].toNat = false := by simpa using ho
          simp [okC, ho']
      · have hd : 128 ≤ (Utf8.decode s pos).1 := by rw [decode_at, byte_get s pos hp]; exact decodeN_big _ _ _ _ _ (by omega)
        rw [if_pos (oddR_big hd)]
        simp [okC, oddR_big (show 128 ≤ s[pos].toNat by omega)]
    · rw [if_neg hp, List.drop_of_length_le (by simpa using hp)]
      simp
theorem idx_odd (s : ByteArray) : decide (0 ≤ idxFunc oddR true s) = !s.data.toList.all okC := by
  unfold idxFunc
  have := idx_from_bad s s.size 0 (by omega)
  rw [List.drop_zero] at this
  rw [Bool.eq_iff_iff, decide_eq_true_iff, this, List.not_all_eq_any_not]

theorem odd_at (w : World) : PredAt Tryz.prog 172 #[] encR oddR w := fun W r _ => by
  unfold FnGives
  have z1 : (97 : Int) ≤ (r : Int) ↔ 97 ≤ r := by omega
  have z2 : (r : Int) ≤ 122 ↔ r ≤ 122 := by omega
  have z3 : (48 : Int) ≤ (r : Int) ↔ 48 ≤ r := by omega
  have z4 : (r : Int) ≤ 57 ↔ r ≤ 57 := by omega
  have z5 : ((r : Int) == 45) = decide (r = 45) := by rw [Bool.eq_iff_iff]; simp; omega
  have Z5 := Aside0.mk z5
  clear z5
  by_cases h1 : 97 ≤ r <;> by_cases h2 : r ≤ 122 <;> by_cases h3 : 48 ≤ r <;> by_cases h4 : r ≤ 57
  all_goals first
    | (exfalso; omega)
    | (go_enter Tryz.func172, Tryz.ntmps172
       go_wp2
       go_ret
       exact ⟨by simp [oddR, h1, h2, h3, h4, Z5.out], 0, rfl⟩)


theorem strings_ContainsFunc_odd (s : ByteArray) (w : World) :
    Calls Tryz.prog 173 #[.string s, .func (.func 172) #[] #[]] w fun e w' => e = .returned (.bool (!s.data.toList.all okC)) ∧ Below w.heap.size w w' := by
  have hC := Tryz.strings_ContainsFunc 172 #[] (enters_of Tryz.func172 (by kernel_rfl) rfl) _ s w (odd_at w)
  rw [idx_odd] at hC
  exact hC

theorem name_calls (s : ByteArray) (w : World) :
    Calls Tryz.prog 128 #[.string s] w fun e w' => e = .returned (.bool (nameB s)) ∧ Below w.heap.size w w' := by
  by_cases h1 : 1 ≤ s.size
  · by_cases h2 : s.size ≤ 24
    · go_enter Tryz.func128, Tryz.ntmps128
      go_wp2_with (go_at_call 173; refine (strings_ContainsFunc_odd _ _).mono ?_; rintro e w' ⟨rfl, hb⟩)
      go_ret
      exact ⟨by simp [nameB, h1, h2], hb⟩
    · go_enter Tryz.func128, Tryz.ntmps128
      go_wp2
      go_ret
      exact ⟨by simp [nameB, h1, h2], Below.refl _ _⟩
  · go_enter Tryz.func128, Tryz.ntmps128
    go_wp2
    go_ret
    exact ⟨by simp [nameB, h1], Below.refl _ _⟩
/-! ### clock's name -/
theorem cOdd_at (w : World) : PredAt Tryz.prog 143 #[] encR oddR w := fun W r _ => by
  unfold FnGives
  have z1 : (97 : Int) ≤ (r : Int) ↔ 97 ≤ r := by omega
  have z2 : (r : Int) ≤ 122 ↔ r ≤ 122 := by omega
  have z3 : (48 : Int) ≤ (r : Int) ↔ 48 ≤ r := by omega
  have z4 : (r : Int) ≤ 57 ↔ r ≤ 57 := by omega
  have z5 : ((r : Int) != 45) = decide (r ≠ 45) := by rw [Bool.eq_iff_iff]; simp; omega
  have Z5 := Aside0.mk z5
  clear z5
  by_cases h1 : 97 ≤ r <;> by_cases h2 : r ≤ 122 <;> by_cases h3 : 48 ≤ r <;> by_cases h4 : r ≤ 57
  all_goals first
    | (exfalso; omega)
    | (go_enter Tryz.func143, Tryz.ntmps143
       go_wp2
       go_ret
       refine ⟨?_, 0, rfl⟩
       simp [oddR, h1, h2, h3, h4, Z5.out]
       try omega)
theorem strings_IndexFunc_odd (s : ByteArray) (w : World) :
    Calls Tryz.prog 144 #[.string s, .func (.func 143) #[] #[]] w fun e w' => e = .returned (.int .i64 (idxFunc oddR true s)) ∧ Below w.heap.size w w' :=
  Tryz.strings_IndexFunc 143 #[] (enters_of Tryz.func143 (by kernel_rfl) rfl) _ s w (cOdd_at w)
theorem cName_calls (s : ByteArray) (w : World) :
    Calls Tryz.prog 98 #[.string s] w fun e w' => e = .returned (.bool (nameB s)) ∧ Below w.heap.size w w' := by
  have hi := idx_odd s
  have HI : Aside0 (decide (idxFunc oddR true s < 0) = s.data.toList.all okC) := ⟨by
    cases h : s.data.toList.all okC <;> rw [h] at hi <;> simp at hi ⊢ <;> omega⟩
  clear hi
  by_cases h1 : 1 ≤ s.size
  · by_cases h2 : s.size ≤ 24
    · go_enter Tryz.func98, Tryz.ntmps98
      go_wp2_with (go_at_call 144; refine (strings_IndexFunc_odd _ _).mono ?_; rintro e w' ⟨rfl, hb⟩)
      all_goals go_ret
      all_goals exact ⟨ret_bool (by rw [HI.out]; simp [nameB, h1, h2]), hb⟩
    · go_enter Tryz.func98, Tryz.ntmps98
      go_wp2
      go_ret
      exact ⟨by simp [nameB, h1, h2], Below.refl _ _⟩
  · go_enter Tryz.func98, Tryz.ntmps98
    go_wp2
    go_ret
    exact ⟨by simp [nameB, h1], Below.refl _ _⟩
end Go.Proofs.YtmmfoeckggpgdaaGreatDoor
set_option linter.unusedSimpArgs false
set_option linter.unusedVariables false
namespace Go.Proofs.YtmmfoeckggpgdaaGreatDoor
open Go.RowKit Go.Lib Go.Maps Go.Proofs.YtmmfoeckggpgdaaGreatDoorW.PrintWords

theorem cMay_calls (v : Int) (w : World) : Calls Tryz.prog 99 #[.int .i64 v] w fun e w' => e = .returned (.bool (decide (tickB v))) ∧ w' = w := by
  have he := within_eq v
  by_cases h : tickB v
  · have hb : (v == within v) = true := beq_iff_eq.2 (he.2 h)
    have HD : Aside0 (decide (tickB v) = true) := ⟨decide_eq_true h⟩
    obtain ⟨u, hu⟩ : ∃ u, u = within v := ⟨_, rfl⟩
    have HU := Aside0.mk hu
    rw [← hu] at hb
    clear he h hu
    go_enter Tryz.func99, Tryz.ntmps99
    go_wp2_with fail
    refine (within_calls v w).mono ?_
    rintro e w' ⟨rfl, rfl⟩
    rw [← HU.out]
    go_wp2
    go_ret
    exact ⟨ret_bool HD.out.symm, rfl⟩
  · have hb : (v == within v) = false := beq_eq_false_iff_ne.2 (fun e => h (he.1 e))
    have HD : Aside0 (decide (tickB v) = false) := ⟨decide_eq_false h⟩
    obtain ⟨u, hu⟩ : ∃ u, u = within v := ⟨_, rfl⟩
    have HU := Aside0.mk hu
    rw [← hu] at hb
    clear he h hu
    go_enter Tryz.func99, Tryz.ntmps99
    go_wp2_with fail
    refine (within_calls v w).mono ?_
    rintro e w' ⟨rfl, rfl⟩
    rw [← HU.out]
    go_wp2
    go_ret
    exact ⟨ret_bool HD.out.symm, rfl⟩
/-- what hearing comes to -/
def hearsB (c : Clk) (s : ByteArray) (at_ now : Int) : Bool := nameB s && decide (tickB at_) && decide ((tickC c now).mark < at_)
def hearC (c : Clk) (s : ByteArray) (at_ now : Int) : Clk := if hearsB c s at_ now = true then hearP (tickC c now) s at_ else tickC c now
theorem ClkAt.mono {w : World} {g b n n' : Nat} {c : Clk} (h : ClkAt w g b n c) (hn : n ≤ n') : ClkAt w g b n' c := ⟨h.blk, h.map.mono hn, h.ok⟩
theorem zero_heard (w : World) : (zeroValue 141).run Tryz.prog w = .ok (heardV (0, 0)) w := by kernel_rfl
theorem field_heard (a b : Int) (w : World) : (Instr.field 141 (.agg #[.int .i64 a, .int .i64 b]) 0).run Tryz.prog w = .ok (.int .i64 a) w := by kernel_rfl
theorem nameB_len {s : ByteArray} (h : nameB s = true) : s.size ≤ maxLen := by
  simp only [nameB, Bool.and_eq_true, decide_eq_true_eq] at h
  unfold maxLen; omega
theorem clkS_g (g b : Nat) : ∀ k, k = g → clkS g b k := fun k h => .inl h
set_option maxRecDepth 100000 in
set_option maxHeartbeats 1000000 in
theorem hear_calls (g b n : Nat) (c : Clk) (s : ByteArray) (at_ now : Int) (w : World) (h : ClkAt w g b n c) (hn : n ≤ 1000000000) :
    Calls Tryz.prog 52 #[.pointer (some ⟨g, 0, none⟩), .string s, .int .i64 at_, .int .i64 now] w fun e w' => e = .returned (.bool (hearsB c s at_ now)) ∧ ClkAt w' g b (n + 1) (hearC c s at_ now) ∧ Fr (clkS g b) w w' := by
  have H := Aside0.mk h
  have HN := Aside0.mk hn
  clear h hn
  go_enter Tryz.func52, Tryz.ntmps52
  go_wp2_with fail
  refine (tick_calls g b n c now w H.out).mono ?_
  rintro e w1 ⟨rfl, hC1, hF1⟩
  have F1 := Aside0.mk (hF1.mono (fun k _ hk => clkS_g g b k hk))
  have HC1 := Aside0.mk hC1
  obtain ⟨c1, hc1⟩ : ∃ c1, c1 = tickC c now := ⟨_, rfl⟩
  rw [← hc1] at HC1
  have HQ := Aside0.mk hc1
  clear hC1 hF1 hc1
  have hB : hearsB c s at_ now = (nameB s && decide (tickB at_) && decide (c1.mark < at_)) := by unfold hearsB; rw [← HQ.out]
  have HB := Aside0.mk hB
  have HE : Aside0 (hearC c s at_ now = if hearsB c s at_ now = true then hearP c1 s at_ else c1) := ⟨by unfold hearC; rw [← HQ.out]⟩
  clear hB
  rw [← HQ.out]
  go_wp2_with fail
  refine (cName_calls s w1).mono ?_
  rintro e w2 ⟨rfl, hb2⟩
  have HC2 := Aside0.mk (HC1.out.below hb2)
  have F2 := Aside0.mk (F1.out.below hb2)
  clear hb2
  cases hnm : nameB s with
  | false =>
    rw [hnm] at HB
    have HF : Aside0 (hearsB c s at_ now = false) := ⟨by rw [HB.out]; rfl⟩
    clear hnm
    go_wp2
    go_ret
    rw [HE.out, HF.out]
    exact ⟨rfl, HC2.out.mono (by omega), F2.out⟩
  | true =>
    rw [hnm] at HB
    have HNm := Aside0.mk hnm
    clear hnm
    go_wp2_with fail
    refine (cMay_calls at_ w2).mono ?_
    rintro e w3 ⟨rfl, rfl⟩
    by_cases ht : tickB at_
    · rw [decide_eq_true ht] at HB ⊢
      have HT := Aside0.mk ht
      obtain ⟨p0, p1, p2, p3, p4, ps⟩ := five HC2.out.blk
      clear ht
      by_cases hle : at_ ≤ c1.mark
      · have HF : Aside0 (hearsB c s at_ now = false) := ⟨by rw [HB.out]; simp; omega⟩
        go_wp2
        go_ret
        rw [HE.out, HF.out]
        exact ⟨rfl, HC2.out.mono (by omega), F2.out⟩
      · have HF : Aside0 (hearsB c s at_ now = true) := ⟨by rw [HB.out]; simp; omega⟩
        obtain ⟨o, ho⟩ : ∃ o, o = (getL c1.src s).getD (0, 0) := ⟨_, rfl⟩
        have HO := Aside0.mk ho
        have HCd : Aside0 (ClkAt w3.drew g b n c1) := ⟨HC2.out.below (below_drew (Below.refl _ _))⟩
        have hlk := HCd.out.map.look Tryz.underlying9 Tryz.underlying135 (z := (0, 0)) (zero_heard _) (nameB_len HNm.out)
        rw [← ho] at hlk
        obtain ⟨o1, o2⟩ := o
        unfold heardV at hlk
        have hfd := field_heard o1 o2 w3.drew
        have hob : tickB o1 := by
          have h1 : (o1, o2).1 = o1 := rfl
          rw [← h1, ho]
          cases e : getL c1.src s with
          | none => unfold tickB; simp
          | some v => exact HC2.out.ok.at_ _ (mem_of_getL e)
        have hab := HT.out
        unfold tickB at hob hab
        have HRn : Aside0 (hearP c1 s at_ = riseC { c1 with src := putL c1.src s (max at_ o1, c1.now) }) := ⟨by unfold hearP; rw [← HO.out]⟩
        have HTk : Aside0 (tickB (max at_ o1) ∧ tickB c1.now) := ⟨by unfold tickB; omega, HC2.out.ok.now⟩
        clear ho
        go_wp2_with fail
        go_still_tail 19, (by kernel_rfl)
        change wpList _ _ _ _ _ w3.drew
        refine wpList_store_T (mk := heardV) rfl _ _ _ 135 rfl Tryz.underlying9 Tryz.underlying135 rfl HCd.out.map (by have := HN.out; unfold maxLen; omega) s (nameB_len HNm.out) (max at_ o1, c1.now) rfl rfl ?_
        intro W4 hm4 hg4 hs4
        have hgb := HC2.out.ne
        have HC4 : Aside0 (ClkAt W4 g b (n + 1) { c1 with src := putL c1.src s (max at_ o1, c1.now) }) := ⟨(hg4.block g (blk_lt HCd.out.blk) (fun e => hgb (by injection e))).trans HCd.out.blk, hm4, HCd.out.ok.slack, HCd.out.ok.idle, HCd.out.ok.now, HCd.out.ok.mark,
          fun p hp => by
            rcases mem_putL hp with rfl | hp
            · exact HTk.out.1
            · exact HCd.out.ok.at_ p hp,
          fun p hp => by
            rcases mem_putL hp with rfl | hp
            · exact HTk.out.2
            · exact HCd.out.ok.heard p hp⟩
        have F4 := Aside0.mk (F2.out.drew.grown hg4 (fun k hk => .inl (.inr (by injection hk with hk; exact hk.symm))))
        clear hm4 hg4 hs4 hlk hfd p0 p1 p2 p3 p4 ps
        go_wp2_with fail
        refine (rise_calls g b (n + 1) _ _ HC4.out).mono ?_
        rintro e w5 ⟨rfl, hC5, hF5⟩
        rw [← HRn.out] at hC5
        have HC5 := Aside0.mk hC5
        have F5 := Aside0.mk (F4.out.then_ hF5 (fun k hk => .inl (.inl hk)))
        clear hC5 hF5
        go_wp2
        go_ret
        rw [HE.out, HF.out, if_pos rfl]
        exact ⟨rfl, HC5.out, F5.out⟩
    · rw [decide_eq_false ht] at HB ⊢
      have HF : Aside0 (hearsB c s at_ now = false) := ⟨by rw [HB.out]; rfl⟩
      clear ht
      go_wp2
      go_ret
      rw [HE.out, HF.out]
      exact ⟨rfl, HC2.out.mono (by omega), F2.out⟩
end Go.Proofs.YtmmfoeckggpgdaaGreatDoor
