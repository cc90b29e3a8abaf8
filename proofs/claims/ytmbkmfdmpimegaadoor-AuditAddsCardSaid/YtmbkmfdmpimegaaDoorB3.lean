/-
  The walk of the law AuditAdds: it answers true.
-/
import Derived.Test.YtmbkmfdmpimegaaDoorA13
import Derived.Test.YtmbkmfdmpimegaaDoorA14
set_option linter.unusedSimpArgs false
set_option linter.unusedVariables false
namespace Go.Proofs.YtmbkmfdmpimegaaDoor
open Go.RowKit Go.Lib Go.Sort Go.Proofs.YtmbkmfdmpimegaaDoorW.PrintWords Go.Proofs.YtmbkmfdmpimegaaDoorW.PrintLast Go.Proofs.YtmbkmfdmpimegaaDoor.PR

def reg3_20.T : Bool × List (List Nat × List Nat) := (true, [([], []), ([], []), ([], []), ([1, 2], [1, 2]), ([3], [3]), ([4], [4]), ([], []), ([], []), ([6, 7], [6, 7]), ([8], [8]), ([9], [9]), ([], []), ([], []), ([11, 12], [11, 12]), ([13], [13]), ([14], [14]), ([], []), ([], []), ([16, 17], [16, 17]), ([18], [18]), ([19], [19]), ([0, 5, 10, 15, 20], [0, 5, 10, 15, 20]), ([], []), ([22, 21, 21, 0, 1, 2, 3, 4, 5, 6, 7, 8, 9, 10, 11, 12, 13, 14, 15, 16, 17, 18, 19, 20, 21, 22], [21, 22])])
def reg3_20.B : List Nat := [0, 0, 0, 6, 14, 30, 0, 0, 192, 448, 960, 0, 0, 6144, 14336, 30720, 0, 0, 196608, 458752, 983040, 2097151, 0, 8388607]
theorem reg3_20.tab : rtab .any (opsOf Tryd.f3 20) = reg3_20.T := by kernel_rfl
theorem reg3_20.bits : waitsOk reg3_20.T.2 reg3_20.B = true := by kernel_rfl
def reg3_21.T : Bool × List (List Nat × List Nat) := (true, [([], []), ([0], [0]), ([1], [1]), ([], []), ([3], [3]), ([2, 4, 2], [2, 4]), ([5], [5])])
def reg3_21.B : List Nat := [0, 1, 3, 0, 8, 31, 63]
theorem reg3_21.tab : rtab .any (opsOf Tryd.f3 21) = reg3_21.T := by kernel_rfl
theorem reg3_21.bits : waitsOk reg3_21.T.2 reg3_21.B = true := by kernel_rfl
def reg3_23.T : Bool × List (List Nat × List Nat) := (true, [([], []), ([0], [0]), ([1, 1], [1]), ([], []), ([2, 3, 2], [2, 3]), ([4, 4], [4]), ([5], [5]), ([6, 5, 5], [5, 6]), ([7, 5], [5, 7]), ([5], [5]), ([5], [5]), ([9, 10, 7, 5], [5, 9, 10]), ([8, 11, 5], [5, 8, 11]), ([5, 12], [5, 12]), ([13, 11, 0, 1, 2, 3, 4, 5, 6, 7, 8, 9, 10, 11, 12, 13], [13])])
def reg3_23.B : List Nat := [0, 1, 3, 0, 15, 31, 63, 127, 255, 63, 63, 1791, 4095, 8191, 16383]
theorem reg3_23.tab : rtab .any (opsOf Tryd.f3 23) = reg3_23.T := by kernel_rfl
theorem reg3_23.bits : waitsOk reg3_23.T.2 reg3_23.B = true := by kernel_rfl
set_option maxRecDepth 100000 in
set_option maxHeartbeats 4000000 in
theorem auditAdds_calls (seed : Int) (A : Option Addr) (c : Nat) (es : List S30) (w : World) (hC : Kd.C k30 w A es.length es) (hc : es.length ≤ c) (hn : es.length ≤ 9223372036854775807) (ht : Tab w) (hs0 : 0 ≤ seed) (hs1 : seed < 18446744073709551616) :
    Calls Tryd.prog 3 #[.int .u64 seed, .slice A es.length c] w fun e w' => e = .returned (.bool true) ∧ Below w.heap.size w w' := by
  have HC := Aside0.mk hC
  have HT := Aside0.mk ht
  have HL := Aside0.mk hc
  have HN := Aside0.mk hn
  have HS := Aside0.mk (And.intro hs0 hs1)
  clear hC ht hc hn hs0 hs1
  go_enter Tryd.func3, Tryd.ntmps3
  go_wp2_with fail
  refine (lives_calls w HT.out).mono ?_
  rintro e w1 ⟨rfl, hb1⟩
  have HB1 := Aside0.mk hb1
  clear hb1
  go_wp2_with fail
  refine (ciceroneref43_Few.calls (2 + 40 * es.length) A c es (fewB es) w1 (Kd.C_below HC.out HB1.out) HL.out (few_ref _ es HN.out (by omega))).mono ?_
  rintro e w2 ⟨rfl, hb2⟩
  have HB2 := Aside0.mk (HB1.out.trans (hb2.below.mono HB1.out.size))
  clear hb2 HB1
  cases hf : fewB es with
  | false =>
    clear hf
    go_wp2
    go_ret
    exact ⟨rfl, HB2.out⟩
  | true =>
    have hle : es.length ≤ 31 ∧ ∀ x ∈ es, shortE x = true := by simpa [fewB] using hf
    have HLe := Aside0.mk hle.1
    have HSh := Aside0.mk hle.2
    clear hf hle
    go_wp2_with fail
    refine (new_calls seed w2).mono ?_
    rintro e w3 ⟨rfl, rfl⟩
    have HCh := Aside0.mk (chain_new seed w2)
    have HB3 := Aside0.mk (below_alloc (Below.refl w2.heap.size w2) (.cells #[.int .u64 seed, .slice none 0 0] 52))
    obtain ⟨W3, e3⟩ : ∃ W3, W3 = w2.alloc (.cells #[.int .u64 seed, .slice none 0 0] 52) := ⟨_, rfl⟩
    rw [← e3] at HCh HB3 ⊢
    clear e3
    have HC2 := Aside0.mk (Kd.C_below HC.out HB2.out)
    have HT2 := Aside0.mk (HT.out.below HB2.out)
    clear HC
    go_wp2_with fail
    go_loopw [6, 7, 8] (fun s z i wr => ∃ (k : Nat) (v : Value), i = .int .i64 k ∧ s = .int .u64 (lastS seed (adds seed [] (es.take k))) ∧ k ≤ es.length ∧ Aside0 (OwnRow (k30.K w2) 30 5 wr w2.heap.size z (adds seed [] (es.take k))) ∧ Aside0 (Chain w2.heap.size (nb w2.heap.size) wr w2.heap.size v seed (adds seed [] (es.take k))) ∧ Aside0 (Below w2.heap.size w2 wr)) (fun _ _ i _ => es.length - (intOf i).toNat)
    case atStart => exact ⟨0, _, rfl, rfl, Nat.zero_le _, ⟨OwnRow.none_ _ _ _ _ _⟩, HCh, HB3⟩
    case round =>
      obtain ⟨k, v, rfl, rfl, hk, HW, HCr, HBr⟩ := hrel
      by_cases hlt : k < es.length
      · cases A with
        | none => obtain ⟨ad, e, _⟩ := HC2.out.2.2 (by omega); cases e
        | some ad =>
          obtain ⟨A3, c3, g0, g1, g2, g3, g4, hl3, hC3⟩ := ent_get HC2.out k hlt
          have HA := Aside0.mk (adds_snoc seed es k hlt)
          have hlen := adds_len seed (es.take k) []
          have HX := Aside0.mk (HSh.out es[k] (List.getElem_mem hlt))
          obtain ⟨x, hx⟩ : ∃ x, x = es[k] := ⟨_, rfl⟩
          rw [← hx] at g0 g1 g2 g3 g4 hl3 hC3 HA HX
          clear hx
          obtain ⟨acc, hacc⟩ : ∃ acc, acc = adds seed [] (es.take k) := ⟨_, rfl⟩
          rw [← hacc] at HA HW HCr hlen ⊢
          clear hacc
          have hxs : x.f2.size ≤ 100 ∧ x.f3.length ≤ 30 ∧ ∀ s ∈ x.f3, s.size ≤ 100 := by have := HX.out; simp [shortE] at this; exact ⟨this.1.1, this.1.2, this.2⟩
          have hal : acc.length ≤ 31 := by
            have h1 := HLe.out
            rw [List.length_take] at hlen
            simp at hlen
            omega
          have HXS := Aside0.mk hxs
          have HAL := Aside0.mk hal
          have HC3 := Aside0.mk hC3
          have HL3 := Aside0.mk hl3
          have h0 := pw_cell_below HBr.out g0
          have h1 := pw_cell_below HBr.out g1
          have h2 := pw_cell_below HBr.out g2
          have h3 := pw_cell_below HBr.out g3
          have h4 := pw_cell_below HBr.out g4
          clear hC3 hl3 hlen hal hxs
          go_wp2_with fail
          refine (ciceroneref43_May.calls 2000 x.f0 x.f1 x.f2 A3 c3 x.f3 0 (mayE x.f0 x.f1 x.f2 x.f3) _ (Kd.C_below HC3.out (below_alloc HBr.out _)) HL3.out (may_ref 2000 x.f0 x.f1 x.f2 x.f3 0 (Nat.le_refl _))).mono ?_
          rintro e W4 ⟨rfl, hb4⟩
          have B4 := blk_below (heap_alloc_new wr _) hb4
          have HB4 := Aside0.mk ((below_alloc HBr.out (.cells #[.int .i64 x.f0, .int .i64 x.f1, .string x.f2, .slice A3 x.f3.length c3, .int .u64 0] 30)).trans (hb4.mono (Nat.le_trans HBr.out.size (by simp))))
          have HCr4 := Aside0.mk ((HCr.out.below (below_alloc (Below.refl _ _) (.cells #[.int .i64 x.f0, .int .i64 x.f1, .string x.f2, .slice A3 x.f3.length c3, .int .u64 0] 30))).below hb4)
          have HW4 := Aside0.mk ((HW.out.below (below_alloc (Below.refl _ _) (.cells #[.int .i64 x.f0, .int .i64 x.f1, .string x.f2, .slice A3 x.f3.length c3, .int .u64 0] 30))).below hb4)
          have HO4 : Aside0 (u7.ownBlock ≠ some wr.heap.size) := ⟨fun e => by have := own_row_lt HW.out _ e; omega⟩
          have HLw : Aside0 (w2.heap.size < wr.heap.size) := ⟨blk_lt HCr.out.blk⟩
          have HV4 : Aside0 (∀ k, chS w2.heap.size v k → k < wr.heap.size) := ⟨fun k hk => (HCr.out.ch_lt k hk).1⟩
          have B4' := Aside0.mk B4
          obtain ⟨p0, p1, p2, p3, p4, ps⟩ := five B4
          have f4 := blk_frozen B4
          clear hb4 h0 h1 h2 h3 h4 HW HCr B4
          cases hm : mayE x.f0 x.f1 x.f2 x.f3 with
          | true =>
            have HM := Aside0.mk hm
            clear hm
            go_wp2_with fail
            refine (ciceroneref43_Sum.calls 40000 (lastS seed acc) x.f0 x.f1 x.f2 A3 c3 x.f3 0 (sumE (lastS seed acc) x.f0 x.f1 x.f2 x.f3) _ (Kd.C_below HC3.out HB4.out) HL3.out (sum_ref 40000 _ _ _ _ _ 0 HM.out (Nat.le_refl _))).mono ?_
            rintro e W5 ⟨rfl, hb5⟩
            have B5 := blk_below B4'.out hb5
            have HB5 := Aside0.mk (HB4.out.trans (hb5.mono HB4.out.size))
            have HCr5 := Aside0.mk (HCr4.out.below hb5)
            have HW5 := Aside0.mk (HW4.out.below hb5)
            have B5' := Aside0.mk B5
            clear p0 p1 p2 p3 p4 ps f4
            obtain ⟨p0, p1, p2, p3, p4, ps⟩ := five B5
            have f5 := blk_frozen B5
            clear hb5 B5 B4' HB4 HCr4 HW4
            obtain ⟨sm, hsm⟩ : ∃ sm, sm = sumE (lastS seed acc) x.f0 x.f1 x.f2 x.f3 := ⟨_, rfl⟩
            rw [← hsm]
            have HSM := Aside0.mk hsm
            clear hsm
            have F6 : Aside0 (Fr (fun j => j = wr.heap.size) W5 (W5.setCell ⟨wr.heap.size, 4, none⟩ (.int .u64 sm))) := ⟨(Fr.refl (fun j => j = wr.heap.size) W5).setCell (p := ⟨wr.heap.size, 4, none⟩) (.inl rfl) _⟩
            have B6 := Aside0.mk (blk_set B5'.out 4 (.int .u64 sm))
            have HB6 : Aside0 (Below w2.heap.size w2 (W5.setCell ⟨wr.heap.size, 4, none⟩ (.int .u64 sm))) := ⟨HB5.out.setCell HBr.out.size _⟩
            have HW6 : Aside0 (OwnRow (k30.K w2) 30 5 (W5.setCell ⟨wr.heap.size, 4, none⟩ (.int .u64 sm)) w2.heap.size u7 acc) := ⟨own_fr HW5.out F6.out (fun j hj e => HO4.out (by rw [hj, e]))⟩
            have HCr6 : Aside0 (Chain w2.heap.size (nb w2.heap.size) (W5.setCell ⟨wr.heap.size, 4, none⟩ (.int .u64 sm)) w2.heap.size v seed acc) := ⟨HCr5.out.over F6.out (fun j _ e => by subst e; exact ⟨_, B5'.out⟩)⟩
            have HK := Aside0.mk (k30_mk w2 (⟨x.f0, x.f1, x.f2, x.f3, sm⟩ : S30) HL3.out HC3.out)
            have HO1 := Aside0.mk (k30_one w2 (⟨x.f0, x.f1, x.f2, x.f3, sm⟩ : S30) _ HK.out)
            have HL2 : Aside0 ((acc.length + 1) * 64 ≤ 140737488355328) := ⟨by have := HAL.out; omega⟩
            go_wp2_with (at_builtin; refine OwnRow.append (w0 := W5.setCell ⟨wr.heap.size, 4, none⟩ (.int .u64 sm)) (W := W5.setCell ⟨wr.heap.size, 4, none⟩ (.int .u64 sm)) w2.heap.size rfl _ _ 23 30 _ 5 64 rfl Tryd.underlying23 info30 rfl (by decide) (by decide) u7 acc ⟨x.f0, x.f1, x.f2, x.f3, sm⟩ [.int .i64 x.f0, .int .i64 x.f1, .string x.f2, .slice A3 x.f3.length c3, .int .u64 sm] rfl (by simp [Act.eval]) HK.out rfl HO1.out HW6.out (Below.refl _ _) HB6.out.size HL2.out ?_)
            intro v1 W7 hR7 hb7 hg7 hat7
            have F7 : Aside0 (Fr (fun j => u7.ownBlock = some j) (W5.setCell ⟨wr.heap.size, 4, none⟩ (.int .u64 sm)) W7) := ⟨(Fr.refl (fun j => u7.ownBlock = some j) _).grown hg7 (fun j hj => .inl hj)⟩
            have HC7 := Aside0.mk (HCr6.out.over F7.out (fun j _ hj => own_row_typed HW6.out j hj))
            have B9 := Aside0.mk (F7.out.blk B6.out (fun hj => HO4.out hj))
            have HB7 := Aside0.mk (HB6.out.grown hg7 HB6.out.size (fun j hj => own_row_base HW6.out j hj))
            have HW7 := Aside0.mk hR7
            have HAE : Aside0 (addE seed acc x.f0 x.f1 x.f2 x.f3 = (⟨x.f0, x.f1, x.f2, x.f3, sm⟩, acc ++ [⟨x.f0, x.f1, x.f2, x.f3, sm⟩])) := ⟨by unfold addE; rw [if_pos HM.out, HSM.out]⟩
            clear hR7 hb7 hg7 hat7 F6 B6 HB6 HW6 HCr6 HW5 HCr5 B5' HB5 p0 p1 p2 p3 p4 ps f5
            go_wp2_with fail
            have HBs := Aside0.mk (below_drew HB7.out)
            have B9s := Aside0.mk (blk_drew B9.out)
            have HCs := Aside0.mk (HC7.out.below (below_drew (Below.refl _ _)))
            have HWs := Aside0.mk (HW7.out.below (below_drew (Below.refl _ _)))
            refine start_ (n := 24) (S := fun W => W.cell? (ad.add (k * 5)) = some (.int .i64 x.f0) ∧ W.cell? ⟨(ad.add (k * 5)).block, (ad.add (k * 5)).off + 1, none⟩ = some (.int .i64 x.f1) ∧ W.cell? ⟨(ad.add (k * 5)).block, (ad.add (k * 5)).off + 2, none⟩ = some (.string x.f2) ∧ W.cell? ⟨(ad.add (k * 5)).block, (ad.add (k * 5)).off + 3, none⟩ = some (.slice A3 x.f3.length c3)) (ds := []) #[false, false, false, false, false, false, false, false, false, false, false, false, false, false, false, false, false, false, false, false, false, false, false, false] (by kernel_rfl) rfl rfl ⟨pw_cell_below HBs.out g0, pw_cell_below HBs.out g1, pw_cell_below HBs.out g2, pw_cell_below HBs.out g3⟩ (fun hHeld => ?_)
            refine with_tabW reg3_20.tab reg3_20.bits (fun HT_ HW_ => ?_)
            refine pure_ (i := 0) (N := (some 45)) (v := ?_) (a' := ?_) #[true, false, false, false, false, false, false, false, false, false, false, false, false, false, false, false, false, false, false, false, false, false, false, false] rfl rfl (any_of HT_.out (by kernel_rfl)) (fun _ _ _ h => h) (Or.inl ⟨by rfl, ?_⟩) ?_ ?_
            rotate_left
            · intro w'
              go_simp
              with_reducible rfl
            rotate_left
            · simp only [Act.put, List.setIfInBounds_toArray, List.set_cons_zero, List.set_cons_succ, i64_w, i32_w]
              rfl
            refine pure_ (i := 1) (N := (some 46)) (v := ?_) (a' := ?_) #[true, true, false, false, false, false, false, false, false, false, false, false, false, false, false, false, false, false, false, false, false, false, false, false] rfl rfl (any_of HT_.out (by kernel_rfl)) (fun _ _ _ h => h) (Or.inl ⟨by rfl, ?_⟩) ?_ ?_
            rotate_left
            · intro w'
              go_simp
              with_reducible rfl
            rotate_left
            · simp only [Act.put, List.setIfInBounds_toArray, List.set_cons_zero, List.set_cons_succ, i64_w, i32_w]
              rfl
            refine pure_ (i := 2) (N := (some 47)) (v := ?_) (a' := ?_) #[true, true, true, false, false, false, false, false, false, false, false, false, false, false, false, false, false, false, false, false, false, false, false, false] rfl rfl (any_of HT_.out (by kernel_rfl)) (fun _ _ _ h => h) (Or.inl ⟨by rfl, ?_⟩) ?_ ?_
            rotate_left
            · intro w'
              go_simp
              with_reducible rfl
            rotate_left
            · simp only [Act.put, List.setIfInBounds_toArray, List.set_cons_zero, List.set_cons_succ, i64_w, i32_w]
              rfl
            refine pure_ (i := 3) (N := (some 48)) (v := ?_) (a' := ?_) #[true, true, true, true, false, false, false, false, false, false, false, false, false, false, false, false, false, false, false, false, false, false, false, false] rfl rfl (any_of HT_.out (by kernel_rfl)) (fun _ _ _ h => h) (Or.inl ⟨by rfl, ?_⟩) ?_ ?_
            rotate_left
            · intro w'
              go_simp
              with_reducible rfl
            rotate_left
            · simp only [Act.put, List.setIfInBounds_toArray, List.set_cons_zero, List.set_cons_succ, i64_w, i32_w]
              rfl
            refine pure_ (i := 4) (N := (some 49)) (v := ?_) (a' := ?_) #[true, true, true, true, true, false, false, false, false, false, false, false, false, false, false, false, false, false, false, false, false, false, false, false] rfl rfl (any_of HT_.out (by kernel_rfl)) (fun _ _ _ h => h) (Or.inl ⟨by rfl, ?_⟩) ?_ ?_
            rotate_left
            · intro w'
              go_simp
              with_reducible rfl
            rotate_left
            · simp only [Act.put, List.setIfInBounds_toArray, List.set_cons_zero, List.set_cons_succ, i64_w, i32_w]
              rfl
            refine pure_ (i := 6) (N := (some 51)) (v := ?_) (a' := ?_) #[true, true, true, true, true, false, true, false, false, false, false, false, false, false, false, false, false, false, false, false, false, false, false, false] rfl rfl (any_of HT_.out (by kernel_rfl)) (fun _ _ _ h => h) (Or.inl ⟨by rfl, ?_⟩) ?_ ?_
            rotate_left
            · intro w'
              go_simp
              with_reducible rfl
            rotate_left
            · simp only [Act.put, List.setIfInBounds_toArray, List.set_cons_zero, List.set_cons_succ, i64_w, i32_w]
              rfl
            refine pure_ (i := 7) (N := (some 52)) (v := ?_) (a' := ?_) #[true, true, true, true, true, false, true, true, false, false, false, false, false, false, false, false, false, false, false, false, false, false, false, false] rfl rfl (any_of HT_.out (by kernel_rfl)) (fun _ _ _ h => h) (Or.inl ⟨by rfl, ?_⟩) ?_ ?_
            rotate_left
            · intro w'
              go_simp
              with_reducible rfl
            rotate_left
            · simp only [Act.put, List.setIfInBounds_toArray, List.set_cons_zero, List.set_cons_succ, i64_w, i32_w]
              rfl
            refine pure_ (i := 8) (N := (some 53)) (v := ?_) (a' := ?_) #[true, true, true, true, true, false, true, true, true, false, false, false, false, false, false, false, false, false, false, false, false, false, false, false] rfl rfl (any_of HT_.out (by kernel_rfl)) (fun _ _ _ h => h) (Or.inl ⟨by rfl, ?_⟩) ?_ ?_
            rotate_left
            · intro w'
              go_simp
              with_reducible rfl
            rotate_left
            · simp only [Act.put, List.setIfInBounds_toArray, List.set_cons_zero, List.set_cons_succ, i64_w, i32_w]
              rfl
            refine pure_ (i := 9) (N := (some 54)) (v := ?_) (a' := ?_) #[true, true, true, true, true, false, true, true, true, true, false, false, false, false, false, false, false, false, false, false, false, false, false, false] rfl rfl (any_of HT_.out (by kernel_rfl)) (fun _ _ _ h => h) (Or.inl ⟨by rfl, ?_⟩) ?_ ?_
            rotate_left
            · intro w'
              go_simp
              with_reducible rfl
            rotate_left
            · simp only [Act.put, List.setIfInBounds_toArray, List.set_cons_zero, List.set_cons_succ, i64_w, i32_w]
              rfl
            refine pure_ (i := 11) (N := (some 56)) (v := ?_) (a' := ?_) #[true, true, true, true, true, false, true, true, true, true, false, true, false, false, false, false, false, false, false, false, false, false, false, false] rfl rfl (any_of HT_.out (by kernel_rfl)) (fun _ _ _ h => h) (Or.inl ⟨by rfl, ?_⟩) ?_ ?_
            rotate_left
            · intro w'
              go_simp
              with_reducible rfl
            rotate_left
            · simp only [Act.put, List.setIfInBounds_toArray, List.set_cons_zero, List.set_cons_succ, i64_w, i32_w]
              rfl
            refine pure_ (i := 12) (N := (some 57)) (v := ?_) (a' := ?_) #[true, true, true, true, true, false, true, true, true, true, false, true, true, false, false, false, false, false, false, false, false, false, false, false] rfl rfl (any_of HT_.out (by kernel_rfl)) (fun _ _ _ h => h) (Or.inl ⟨by rfl, ?_⟩) ?_ ?_
            rotate_left
            · intro w'
              go_simp
              with_reducible rfl
            rotate_left
            · simp only [Act.put, List.setIfInBounds_toArray, List.set_cons_zero, List.set_cons_succ, i64_w, i32_w]
              rfl
            refine pure_ (i := 13) (N := (some 58)) (v := ?_) (a' := ?_) #[true, true, true, true, true, false, true, true, true, true, false, true, true, true, false, false, false, false, false, false, false, false, false, false] rfl rfl (any_of HT_.out (by kernel_rfl)) (fun _ _ _ h => h) (Or.inl ⟨by rfl, ?_⟩) ?_ ?_
            rotate_left
            · intro w'
              go_simp
              with_reducible rfl
            rotate_left
            · simp only [Act.put, List.setIfInBounds_toArray, List.set_cons_zero, List.set_cons_succ, i64_w, i32_w]
              rfl
            refine pure_ (i := 14) (N := (some 59)) (v := ?_) (a' := ?_) #[true, true, true, true, true, false, true, true, true, true, false, true, true, true, true, false, false, false, false, false, false, false, false, false] rfl rfl (any_of HT_.out (by kernel_rfl)) (fun _ _ _ h => h) (Or.inl ⟨by rfl, ?_⟩) ?_ ?_
            rotate_left
            · intro w'
              go_simp
              with_reducible rfl
            rotate_left
            · simp only [Act.put, List.setIfInBounds_toArray, List.set_cons_zero, List.set_cons_succ, i64_w, i32_w]
              rfl
            refine pure_ (i := 16) (N := (some 61)) (v := ?_) (a' := ?_) #[true, true, true, true, true, false, true, true, true, true, false, true, true, true, true, false, true, false, false, false, false, false, false, false] rfl rfl (any_of HT_.out (by kernel_rfl)) (fun _ _ _ h => h) (Or.inl ⟨by rfl, ?_⟩) ?_ ?_
            rotate_left
            · intro w'
              go_simp
              with_reducible rfl
            rotate_left
            · simp only [Act.put, List.setIfInBounds_toArray, List.set_cons_zero, List.set_cons_succ, i64_w, i32_w]
              rfl
            refine pure_ (i := 17) (N := (some 62)) (v := ?_) (a' := ?_) #[true, true, true, true, true, false, true, true, true, true, false, true, true, true, true, false, true, true, false, false, false, false, false, false] rfl rfl (any_of HT_.out (by kernel_rfl)) (fun _ _ _ h => h) (Or.inl ⟨by rfl, ?_⟩) ?_ ?_
            rotate_left
            · intro w'
              go_simp
              with_reducible rfl
            rotate_left
            · simp only [Act.put, List.setIfInBounds_toArray, List.set_cons_zero, List.set_cons_succ, i64_w, i32_w]
              rfl
            refine pure_ (i := 18) (N := (some 63)) (v := ?_) (a' := ?_) #[true, true, true, true, true, false, true, true, true, true, false, true, true, true, true, false, true, true, true, false, false, false, false, false] rfl rfl (any_of HT_.out (by kernel_rfl)) (fun _ _ _ h => h) (Or.inl ⟨by rfl, ?_⟩) ?_ ?_
            rotate_left
            · intro w'
              go_simp
              with_reducible rfl
            rotate_left
            · simp only [Act.put, List.setIfInBounds_toArray, List.set_cons_zero, List.set_cons_succ, i64_w, i32_w]
              rfl
            refine pure_ (i := 19) (N := (some 64)) (v := ?_) (a' := ?_) #[true, true, true, true, true, false, true, true, true, true, false, true, true, true, true, false, true, true, true, true, false, false, false, false] rfl rfl (any_of HT_.out (by kernel_rfl)) (fun _ _ _ h => h) (Or.inl ⟨by rfl, ?_⟩) ?_ ?_
            rotate_left
            · intro w'
              go_simp
              with_reducible rfl
            rotate_left
            · simp only [Act.put, List.setIfInBounds_toArray, List.set_cons_zero, List.set_cons_succ, i64_w, i32_w]
              rfl
            refine take_ (i := 5) (N := (some 50)) (v := ?_) (a' := ?_) #[true, true, true, true, true, true, true, true, true, true, false, true, true, true, true, false, true, true, true, true, false, false, false, false] rfl rfl (take_ofW HT_.out HW_.out (by kernel_rfl)) (fun _ _ _ h => h) (Or.inl ⟨by rfl, ?_⟩) hHeld ?_ ?_
            rotate_left
            · rintro w' ⟨s0, s1, s2, s3⟩
              go_simp
              with_reducible rfl
            rotate_left
            · simp only [Act.put, List.setIfInBounds_toArray, List.set_cons_zero, List.set_cons_succ, i64_w, i32_w]
              rfl
            refine take_ (i := 10) (N := (some 55)) (v := ?_) (a' := ?_) #[true, true, true, true, true, true, true, true, true, true, true, true, true, true, true, false, true, true, true, true, false, false, false, false] rfl rfl (take_ofW HT_.out HW_.out (by kernel_rfl)) (fun _ _ _ h => h) (Or.inl ⟨by rfl, ?_⟩) hHeld ?_ ?_
            rotate_left
            · rintro w' ⟨s0, s1, s2, s3⟩
              go_simp
              with_reducible rfl
            rotate_left
            · simp only [Act.put, List.setIfInBounds_toArray, List.set_cons_zero, List.set_cons_succ, i64_w, i32_w]
              rfl
            refine take_ (i := 15) (N := (some 60)) (v := ?_) (a' := ?_) #[true, true, true, true, true, true, true, true, true, true, true, true, true, true, true, true, true, true, true, true, false, false, false, false] rfl rfl (take_ofW HT_.out HW_.out (by kernel_rfl)) (fun _ _ _ h => h) (Or.inl ⟨by rfl, ?_⟩) hHeld ?_ ?_
            rotate_left
            · rintro w' ⟨s0, s1, s2, s3⟩
              go_simp
              with_reducible rfl
            rotate_left
            · simp only [Act.put, List.setIfInBounds_toArray, List.set_cons_zero, List.set_cons_succ, i64_w, i32_w]
              rfl
            refine take_ (i := 20) (N := (some 65)) (v := ?_) (a' := ?_) #[true, true, true, true, true, true, true, true, true, true, true, true, true, true, true, true, true, true, true, true, true, false, false, false] rfl rfl (take_ofW HT_.out HW_.out (by kernel_rfl)) (fun _ _ _ h => h) (Or.inl ⟨by rfl, ?_⟩) hHeld ?_ ?_
            rotate_left
            · rintro w' ⟨s0, s1, s2, s3⟩
              go_simp
              with_reducible rfl
            rotate_left
            · simp only [Act.put, List.setIfInBounds_toArray, List.set_cons_zero, List.set_cons_succ, i64_w, i32_w]
              rfl
            refine two_ (i := 21) (j := 22) (Ni := (some 66)) (Nj := (some 10)) #[true, true, true, true, true, true, true, true, true, true, true, true, true, true, true, true, true, true, true, true, true, true, false, false] #[true, true, true, true, true, true, true, true, true, true, true, true, true, true, true, true, true, true, true, true, true, false, true, false] rfl rfl rfl rfl (two_of HT_.out (by kernel_rfl)) (by decide) (by decide) (fun K hK => ?_) (fun K hK => ?_)
            · refine goes_ Tryd.func12 (by kernel_rfl) rfl #[.pointer (some ⟨w2.heap.size, 0, none⟩), .int .i64 x.f0, .int .i64 x.f1, .string x.f2, .slice A3 x.f3.length c3] (by rfl) rfl rfl (by (try simp only [List.map_toArray, List.map_cons, List.map_nil]); first | done | rfl) ?_
              refine (add_calls w2.heap.size v seed acc x.f0 x.f1 x.f2 A3 c3 x.f3 W7.drew HCs.out (Kd.C_below HC3.out HBs.out) (HT2.out.below HBs.out) (by have := HXS.out.2.1; omega) (by have := HAL.out; omega) (fun s hs => by have := HXS.out.2.2 s hs; omega) (by have := HXS.out.1; omega) (fun j hj => by have h1 := blk_lt HCs.out.blk; show j ≠ _; omega) HBs.out.size).mono ?_
              rintro e W8 ⟨⟨v8, rfl, hR8⟩, hF8, v9, hC9, hat9⟩
              rw [HAE.out] at hR8 hC9
              change Kd.string.R 9 W8 _ any v8 x.f3 at hR8
              obtain ⟨A8, c8, rfl⟩ := Kd.R_slice hR8
              refine ⟨.agg #[.int .i64 x.f0, .int .i64 x.f1, .string x.f2, .slice A8 x.f3.length c8, .int .u64 sm], by rw [HAE.out]; rfl, ?_⟩
              have HBa := Aside0.mk (HBs.out.trans (hF8.toBelow (B := w2.heap.size) HBs.out.size (fun j hj => (HCs.out.ch_lt j hj).2)))
              have B9a := Aside0.mk (hF8.blk B9s.out (fun hj => by have := HV4.out _ hj; omega))
              have HWa := Aside0.mk (own_fr HWs.out hF8 (fun j hj hs => by obtain ⟨cl, t, ht, hc⟩ := HCs.out.own_typed j hs; obtain ⟨cl', hc'⟩ := own_row_typed HWs.out j hj; rw [hc] at hc'; rcases ht with rfl | rfl <;> cases hc'))
              have HCa := Aside0.mk hC9
              have HR8 := Aside0.mk hR8
              clear hF8 hC9 hat9 hR8
              refine hK.out _ _ ⟨pw_cell_below HBa.out g0, pw_cell_below HBa.out g1, pw_cell_below HBa.out g2, pw_cell_below HBa.out g3⟩ (fun hHeld => ?_)
              clear hK K
              refine norm_ (a' := ?_) ?_ ?_
              rotate_left
              · show Act.put _ (some 66) _ = _
                simp only [Act.put, List.setIfInBounds_toArray, List.set_cons_zero, List.set_cons_succ, i64_w, i32_w]
                rfl
              refine one_ (i := 22) (N := (some 10)) #[true, true, true, true, true, true, true, true, true, true, true, true, true, true, true, true, true, true, true, true, true, true, true, false] rfl rfl (one_of HT_.out (by kernel_rfl)) (by decide) (fun K hK => ?_)
              refine event_step (v := .pointer (some ⟨W8.heap.size, 0, none⟩)) (w1 := (W8.alloc (.cells #[.int .i64 0, .int .i64 0, .string ⟨#[]⟩, .slice none 0 0, .int .u64 0] 33))) (by rfl) (by first | (go_simp; done) | (go_simp; rfl)) ?_
              have HBr := Aside0.mk (below_alloc HBa.out (.cells #[.int .i64 0, .int .i64 0, .string ⟨#[]⟩, .slice none 0 0, .int .u64 0] 33))
              have B9r := Aside0.mk (blk_alloc B9a.out (.cells #[.int .i64 0, .int .i64 0, .string ⟨#[]⟩, .slice none 0 0, .int .u64 0] 33))
              have HCr := Aside0.mk (HCa.out.below (below_alloc (Below.refl _ _) (.cells #[.int .i64 0, .int .i64 0, .string ⟨#[]⟩, .slice none 0 0, .int .u64 0] 33)))
              have HWr := Aside0.mk (HWa.out.below (below_alloc (Below.refl _ _) (.cells #[.int .i64 0, .int .i64 0, .string ⟨#[]⟩, .slice none 0 0, .int .u64 0] 33)))
              have B10r : Aside0 ((W8.alloc (.cells #[.int .i64 0, .int .i64 0, .string ⟨#[]⟩, .slice none 0 0, .int .u64 0] 33)).heap[W8.heap.size]? = some (.cells #[.int .i64 0, .int .i64 0, .string ⟨#[]⟩, .slice none 0 0, .int .u64 0] 33)) := ⟨heap_alloc_new W8 _⟩
              refine hK.out _ _ ⟨pw_cell_below HBr.out g0, pw_cell_below HBr.out g1, pw_cell_below HBr.out g2, pw_cell_below HBr.out g3⟩ (fun hHeld => ?_)
              clear hK K
              refine norm_ (a' := ?_) ?_ ?_
              rotate_left
              · show Act.put _ (some 10) _ = _
                simp only [Act.put, List.setIfInBounds_toArray, List.set_cons_zero, List.set_cons_succ, i64_w, i32_w]
                rfl
              refine one_ (i := 23) (N := none) #[true, true, true, true, true, true, true, true, true, true, true, true, true, true, true, true, true, true, true, true, true, true, true, true] rfl rfl (one_of HT_.out (by kernel_rfl)) (by decide) (fun K hK => ?_)
              refine skip_ (w1 := (W8.alloc (.cells #[.int .i64 x.f0, .int .i64 x.f1, .string x.f2, .slice A8 x.f3.length c8, .int .u64 sm] 33))) (by rfl) rfl (by first | (go_simp; done) | (go_simp; rfl)) ?_
              have HBz := Aside0.mk (below_alloc HBa.out (.cells #[.int .i64 x.f0, .int .i64 x.f1, .string x.f2, .slice A8 x.f3.length c8, .int .u64 sm] 33))
              have B9z := Aside0.mk (blk_alloc B9a.out (.cells #[.int .i64 x.f0, .int .i64 x.f1, .string x.f2, .slice A8 x.f3.length c8, .int .u64 sm] 33))
              have HCz := Aside0.mk (HCa.out.below (below_alloc (Below.refl _ _) (.cells #[.int .i64 x.f0, .int .i64 x.f1, .string x.f2, .slice A8 x.f3.length c8, .int .u64 sm] 33)))
              have HWz := Aside0.mk (HWa.out.below (below_alloc (Below.refl _ _) (.cells #[.int .i64 x.f0, .int .i64 x.f1, .string x.f2, .slice A8 x.f3.length c8, .int .u64 sm] 33)))
              have B10z := Aside0.mk (heap_alloc_new W8 (.cells #[.int .i64 x.f0, .int .i64 x.f1, .string x.f2, .slice A8 x.f3.length c8, .int .u64 sm] 33))
              have HR8z := Aside0.mk (Kd.R_alloc HR8.out (.cells #[.int .i64 x.f0, .int .i64 x.f1, .string x.f2, .slice A8 x.f3.length c8, .int .u64 sm] 33))
              obtain ⟨Wz, ez⟩ : ∃ Wz, Wz = (W8.alloc (.cells #[.int .i64 x.f0, .int .i64 x.f1, .string x.f2, .slice A8 x.f3.length c8, .int .u64 sm] 33)) := ⟨_, rfl⟩
              have ez' := ez.symm
              obtain ⟨A8', c8', e8, hl8, hC8⟩ := Kd.R_reads HR8z.out
              obtain ⟨rfl, rfl⟩ : A8 = A8' ∧ c8 = c8' := by cases e8; exact ⟨rfl, rfl⟩
              rw [← ez] at HBz B9z HCz HWz B10z hC8
              have HC8 := Aside0.mk hC8
              have HL8 := Aside0.mk hl8
              clear hC8 hl8 e8 HR8z
              rw [ez']
              clear ez ez'
              refine hK.out _ _ ⟨pw_cell_below HBz.out g0, pw_cell_below HBz.out g1, pw_cell_below HBz.out g2, pw_cell_below HBz.out g3⟩ (fun hHeld => ?_)
              clear hK K
              refine done_ (done_of HT_.out (by kernel_rfl)) ?_
              obtain ⟨q0, q1, q2, q3, q4, qs⟩ := five B10z.out
              obtain ⟨p0, p1, p2, p3, p4, ps⟩ := five B9z.out
              have HQ0 := Aside0.mk (below_drew (Below.refl Wz.heap.size Wz))
              have HY := Aside0.mk (Kd.C_below HC3.out HBz.out)
              have HYL : Aside0 (x.f3.length ≤ c3) := HL3
              go_wp2_with fail
              refine start_ (n := 7) (S := fun W => W.cell? ⟨W8.heap.size, 0, none⟩ = some (.int .i64 x.f0) ∧ W.cell? ⟨W8.heap.size, 1, none⟩ = some (.int .i64 x.f1) ∧ W.cell? ⟨W8.heap.size, 2, none⟩ = some (.string x.f2) ∧ W.cell? ⟨W8.heap.size, 3, none⟩ = some (.slice A8 x.f3.length c8) ∧ W.cell? ⟨W8.heap.size, 4, none⟩ = some (.int .u64 sm) ∧ W.cell? ⟨wr.heap.size, 0, none⟩ = some (.int .i64 x.f0) ∧ W.cell? ⟨wr.heap.size, 1, none⟩ = some (.int .i64 x.f1) ∧ W.cell? ⟨wr.heap.size, 2, none⟩ = some (.string x.f2) ∧ W.cell? ⟨wr.heap.size, 3, none⟩ = some (.slice A3 x.f3.length c3) ∧ W.cell? ⟨wr.heap.size, 4, none⟩ = some (.int .u64 sm)) (ds := []) #[false, false, false, false, false, false, false] (by kernel_rfl) rfl rfl ⟨pw_cell_below HQ0.out q0, pw_cell_below HQ0.out q1, pw_cell_below HQ0.out q2, pw_cell_below HQ0.out q3, pw_cell_below HQ0.out q4, pw_cell_below HQ0.out p0, pw_cell_below HQ0.out p1, pw_cell_below HQ0.out p2, pw_cell_below HQ0.out p3, pw_cell_below HQ0.out p4⟩ (fun hHeld => ?_)
              refine with_tabW reg3_21.tab reg3_21.bits (fun HT_ HW_ => ?_)
              refine take_ (i := 0) (N := (some 67)) (v := ?_) (a' := ?_) #[true, false, false, false, false, false, false] rfl rfl (take_ofW HT_.out HW_.out (by kernel_rfl)) (fun _ _ _ h => h) (Or.inl ⟨by rfl, ?_⟩) hHeld ?_ ?_
              rotate_left
              · rintro w' ⟨s0, s1, s2, s3, s4, t0, t1, t2, t3, t4⟩
                go_simp
                with_reducible rfl
              rotate_left
              · simp only [Act.put, List.setIfInBounds_toArray, List.set_cons_zero, List.set_cons_succ, i64_w, i32_w]
                rfl
              refine take_ (i := 3) (N := (some 70)) (v := ?_) (a' := ?_) #[true, false, false, true, false, false, false] rfl rfl (take_ofW HT_.out HW_.out (by kernel_rfl)) (fun _ _ _ h => h) (Or.inl ⟨by rfl, ?_⟩) hHeld ?_ ?_
              rotate_left
              · rintro w' ⟨s0, s1, s2, s3, s4, t0, t1, t2, t3, t4⟩
                go_simp
                with_reducible rfl
              rotate_left
              · simp only [Act.put, List.setIfInBounds_toArray, List.set_cons_zero, List.set_cons_succ, i64_w, i32_w]
                rfl
              refine two_ (i := 1) (j := 4) (Ni := (some 68)) (Nj := (some 71)) #[true, true, false, true, false, false, false] #[true, false, false, true, true, false, false] rfl rfl rfl rfl (two_of HT_.out (by kernel_rfl)) (by decide) (by decide) (fun K hK => ?_) (fun K hK => ?_)
              · refine event_step (v := .slice (some ⟨Wz.drew.heap.size, 0, none⟩) 1 1) (w1 := (Wz.drew.alloc (.cells #[.int .i64 x.f0, .int .i64 x.f1, .string x.f2, .slice A8 x.f3.length c8, .int .u64 sm] 33))) (by rfl) (by first | (go_simp; done) | (go_simp; rfl)) ?_
                have HQ1 := Aside0.mk (below_alloc HQ0.out (.cells #[.int .i64 x.f0, .int .i64 x.f1, .string x.f2, .slice A8 x.f3.length c8, .int .u64 sm] 33))
                have c37_1 := Aside0.mk (ent_one (heap_alloc_new Wz.drew (.cells #[.int .i64 x.f0, .int .i64 x.f1, .string x.f2, .slice A8 x.f3.length c8, .int .u64 sm] 33)) (k30_mk _ (⟨x.f0, x.f1, x.f2, x.f3, sm⟩ : S30) HL8.out (Kd.C_below HC8.out HQ1.out)))
                refine hK.out _ _ ⟨pw_cell_below HQ1.out q0, pw_cell_below HQ1.out q1, pw_cell_below HQ1.out q2, pw_cell_below HQ1.out q3, pw_cell_below HQ1.out q4, pw_cell_below HQ1.out p0, pw_cell_below HQ1.out p1, pw_cell_below HQ1.out p2, pw_cell_below HQ1.out p3, pw_cell_below HQ1.out p4⟩ (fun hHeld => ?_)
                clear hK K
                refine norm_ (a' := ?_) ?_ ?_
                rotate_left
                · show Act.put _ (some 68) _ = _
                  simp only [Act.put, List.setIfInBounds_toArray, List.set_cons_zero, List.set_cons_succ, i64_w, i32_w]
                  rfl
                refine two_ (i := 2) (j := 4) (Ni := (some 69)) (Nj := (some 71)) #[true, true, true, true, false, false, false] #[true, true, false, true, true, false, false] rfl rfl rfl rfl (two_of HT_.out (by kernel_rfl)) (by decide) (by decide) (fun K hK => ?_) (fun K hK => ?_)
                · refine goes_ Tryd.func14 (by kernel_rfl) rfl #[.slice (some ⟨Wz.drew.heap.size, 0, none⟩) 1 1] (by rfl) rfl rfl (by (try simp only [List.map_toArray, List.map_cons, List.map_nil]); first | done | rfl) ?_
                  refine (told_calls (some ⟨Wz.drew.heap.size, 0, none⟩) 1 [(⟨x.f0, x.f1, x.f2, x.f3, sm⟩ : S30)] _ c37_1.out (by simp)).mono ?_
                  rintro e V2 ⟨A9, c9, rfl, hc9, hC, hb⟩
                  refine ⟨_, rfl, ?_⟩
                  have HQ2 := Aside0.mk (HQ1.out.trans (hb.mono HQ1.out.size))
                  have c37_2 := Aside0.mk (Kd.C_below c37_1.out hb)
                  have ct_2 := Aside0.mk hC
                  clear hb hC
                  refine hK.out _ _ ⟨pw_cell_below HQ2.out q0, pw_cell_below HQ2.out q1, pw_cell_below HQ2.out q2, pw_cell_below HQ2.out q3, pw_cell_below HQ2.out q4, pw_cell_below HQ2.out p0, pw_cell_below HQ2.out p1, pw_cell_below HQ2.out p2, pw_cell_below HQ2.out p3, pw_cell_below HQ2.out p4⟩ (fun hHeld => ?_)
                  clear hK K
                  refine norm_ (a' := ?_) ?_ ?_
                  rotate_left
                  · show Act.put _ (some 69) _ = _
                    simp only [Act.put, List.setIfInBounds_toArray, List.set_cons_zero, List.set_cons_succ, i64_w, i32_w]
                    rfl
                  refine one_ (i := 4) (N := (some 71)) #[true, true, true, true, true, false, false] rfl rfl (one_of HT_.out (by kernel_rfl)) (by decide) (fun K hK => ?_)
                  refine event_step (v := .slice (some ⟨V2.heap.size, 0, none⟩) 1 1) (w1 := (V2.alloc (.cells #[.int .i64 x.f0, .int .i64 x.f1, .string x.f2, .slice A3 x.f3.length c3, .int .u64 sm] 30))) (by rfl) (by first | (go_simp; done) | (go_simp; rfl)) ?_
                  have HQ3 := Aside0.mk (below_alloc HQ2.out (.cells #[.int .i64 x.f0, .int .i64 x.f1, .string x.f2, .slice A3 x.f3.length c3, .int .u64 sm] 30))
                  have c37_3 := Aside0.mk (Kd.C_below c37_2.out (below_alloc (Below.refl _ _) (.cells #[.int .i64 x.f0, .int .i64 x.f1, .string x.f2, .slice A3 x.f3.length c3, .int .u64 sm] 30)))
                  have ct_3 := Aside0.mk (Kd.C_below ct_2.out (below_alloc (Below.refl _ _) (.cells #[.int .i64 x.f0, .int .i64 x.f1, .string x.f2, .slice A3 x.f3.length c3, .int .u64 sm] 30)))
                  have c23_3 := Aside0.mk (ent_one (heap_alloc_new V2 (.cells #[.int .i64 x.f0, .int .i64 x.f1, .string x.f2, .slice A3 x.f3.length c3, .int .u64 sm] 30)) (k30_mk _ (⟨x.f0, x.f1, x.f2, x.f3, sm⟩ : S30) HYL.out (Kd.C_below HY.out HQ3.out)))
                  refine hK.out _ _ ⟨pw_cell_below HQ3.out q0, pw_cell_below HQ3.out q1, pw_cell_below HQ3.out q2, pw_cell_below HQ3.out q3, pw_cell_below HQ3.out q4, pw_cell_below HQ3.out p0, pw_cell_below HQ3.out p1, pw_cell_below HQ3.out p2, pw_cell_below HQ3.out p3, pw_cell_below HQ3.out p4⟩ (fun hHeld => ?_)
                  clear hK K
                  refine norm_ (a' := ?_) ?_ ?_
                  rotate_left
                  · show Act.put _ (some 71) _ = _
                    simp only [Act.put, List.setIfInBounds_toArray, List.set_cons_zero, List.set_cons_succ, i64_w, i32_w]
                    rfl
                  refine one_ (i := 5) (N := (some 72)) #[true, true, true, true, true, true, false] rfl rfl (one_of HT_.out (by kernel_rfl)) (by decide) (fun K hK => ?_)
                  refine goes_ Tryd.func13 (by kernel_rfl) rfl #[.slice A9 1 c9, .slice (some ⟨V2.heap.size, 0, none⟩) 1 1] (by rfl) rfl rfl (by (try simp only [List.map_toArray, List.map_cons, List.map_nil]); first | done | rfl) ?_
                  refine (same_calls A9 c9 (some ⟨V2.heap.size, 0, none⟩) 1 [(⟨x.f0, x.f1, x.f2, x.f3, sm⟩ : S30)] _ ct_3.out c23_3.out (by intro z hz; obtain rfl := List.mem_singleton.1 hz; have := HXS.out.2.1; show x.f3.length ≤ _; omega)).mono ?_
                  rintro e V4 ⟨rfl, hb⟩
                  refine ⟨_, rfl, ?_⟩
                  have HQ4 := Aside0.mk (HQ3.out.trans (hb.mono HQ3.out.size))
                  clear hb
                  refine hK.out _ _ ⟨pw_cell_below HQ4.out q0, pw_cell_below HQ4.out q1, pw_cell_below HQ4.out q2, pw_cell_below HQ4.out q3, pw_cell_below HQ4.out q4, pw_cell_below HQ4.out p0, pw_cell_below HQ4.out p1, pw_cell_below HQ4.out p2, pw_cell_below HQ4.out p3, pw_cell_below HQ4.out p4⟩ (fun hHeld => ?_)
                  clear hK K
                  refine norm_ (a' := ?_) ?_ ?_
                  rotate_left
                  · show Act.put _ (some 72) _ = _
                    simp only [Act.put, List.setIfInBounds_toArray, List.set_cons_zero, List.set_cons_succ, i64_w, i32_w]
                    rfl
                  refine pure_ (i := 6) (N := (some 73)) (v := ?_) (a' := ?_) #[true, true, true, true, true, true, true] rfl rfl (any_of HT_.out (by kernel_rfl)) (fun _ _ _ h => h) (Or.inl ⟨by rfl, ?_⟩) ?_ ?_
                  rotate_left
                  · intro w'
                    go_simp
                    with_reducible rfl
                  rotate_left
                  · simp only [Act.put, List.setIfInBounds_toArray, List.set_cons_zero, List.set_cons_succ, i64_w, i32_w]
                    rfl
                  refine done_ (done_of HT_.out (by kernel_rfl)) ?_
                  have hk31 := HLe.out
                  go_wp2
                  go_roundw
                  case rel =>
                    exact ⟨k + 1, v9, by go_num, by rw [HA.out, HAE.out, lastS_snoc], by omega, ⟨by rw [HA.out, HAE.out]; exact HWz.out.below HQ4.out⟩, ⟨by rw [HA.out]; rw [HAE.out]; exact HCz.out.below HQ4.out⟩, ⟨HBz.out.trans (HQ4.out.mono HBz.out.size)⟩⟩
                  case measure => simp [intOf]; omega
                · refine event_step (v := .slice (some ⟨(Wz.drew.alloc (.cells #[.int .i64 x.f0, .int .i64 x.f1, .string x.f2, .slice A8 x.f3.length c8, .int .u64 sm] 33)).heap.size, 0, none⟩) 1 1) (w1 := ((Wz.drew.alloc (.cells #[.int .i64 x.f0, .int .i64 x.f1, .string x.f2, .slice A8 x.f3.length c8, .int .u64 sm] 33)).alloc (.cells #[.int .i64 x.f0, .int .i64 x.f1, .string x.f2, .slice A3 x.f3.length c3, .int .u64 sm] 30))) (by rfl) (by first | (go_simp; done) | (go_simp; rfl)) ?_
                  have HQ2 := Aside0.mk (below_alloc HQ1.out (.cells #[.int .i64 x.f0, .int .i64 x.f1, .string x.f2, .slice A3 x.f3.length c3, .int .u64 sm] 30))
                  have c37_2 := Aside0.mk (Kd.C_below c37_1.out (below_alloc (Below.refl _ _) (.cells #[.int .i64 x.f0, .int .i64 x.f1, .string x.f2, .slice A3 x.f3.length c3, .int .u64 sm] 30)))
                  have c23_2 := Aside0.mk (ent_one (heap_alloc_new (Wz.drew.alloc (.cells #[.int .i64 x.f0, .int .i64 x.f1, .string x.f2, .slice A8 x.f3.length c8, .int .u64 sm] 33)) (.cells #[.int .i64 x.f0, .int .i64 x.f1, .string x.f2, .slice A3 x.f3.length c3, .int .u64 sm] 30)) (k30_mk _ (⟨x.f0, x.f1, x.f2, x.f3, sm⟩ : S30) HYL.out (Kd.C_below HY.out HQ2.out)))
                  refine hK.out _ _ ⟨pw_cell_below HQ2.out q0, pw_cell_below HQ2.out q1, pw_cell_below HQ2.out q2, pw_cell_below HQ2.out q3, pw_cell_below HQ2.out q4, pw_cell_below HQ2.out p0, pw_cell_below HQ2.out p1, pw_cell_below HQ2.out p2, pw_cell_below HQ2.out p3, pw_cell_below HQ2.out p4⟩ (fun hHeld => ?_)
                  clear hK K
                  refine norm_ (a' := ?_) ?_ ?_
                  rotate_left
                  · show Act.put _ (some 71) _ = _
                    simp only [Act.put, List.setIfInBounds_toArray, List.set_cons_zero, List.set_cons_succ, i64_w, i32_w]
                    rfl
                  refine one_ (i := 2) (N := (some 69)) #[true, true, true, true, true, false, false] rfl rfl (one_of HT_.out (by kernel_rfl)) (by decide) (fun K hK => ?_)
                  refine goes_ Tryd.func14 (by kernel_rfl) rfl #[.slice (some ⟨Wz.drew.heap.size, 0, none⟩) 1 1] (by rfl) rfl rfl (by (try simp only [List.map_toArray, List.map_cons, List.map_nil]); first | done | rfl) ?_
                  refine (told_calls (some ⟨Wz.drew.heap.size, 0, none⟩) 1 [(⟨x.f0, x.f1, x.f2, x.f3, sm⟩ : S30)] _ c37_2.out (by simp)).mono ?_
                  rintro e V3 ⟨A9, c9, rfl, hc9, hC, hb⟩
                  refine ⟨_, rfl, ?_⟩
                  have HQ3 := Aside0.mk (HQ2.out.trans (hb.mono HQ2.out.size))
                  have c37_3 := Aside0.mk (Kd.C_below c37_2.out hb)
                  have c23_3 := Aside0.mk (Kd.C_below c23_2.out hb)
                  have ct_3 := Aside0.mk hC
                  clear hb hC
                  refine hK.out _ _ ⟨pw_cell_below HQ3.out q0, pw_cell_below HQ3.out q1, pw_cell_below HQ3.out q2, pw_cell_below HQ3.out q3, pw_cell_below HQ3.out q4, pw_cell_below HQ3.out p0, pw_cell_below HQ3.out p1, pw_cell_below HQ3.out p2, pw_cell_below HQ3.out p3, pw_cell_below HQ3.out p4⟩ (fun hHeld => ?_)
                  clear hK K
                  refine norm_ (a' := ?_) ?_ ?_
                  rotate_left
                  · show Act.put _ (some 69) _ = _
                    simp only [Act.put, List.setIfInBounds_toArray, List.set_cons_zero, List.set_cons_succ, i64_w, i32_w]
                    rfl
                  refine one_ (i := 5) (N := (some 72)) #[true, true, true, true, true, true, false] rfl rfl (one_of HT_.out (by kernel_rfl)) (by decide) (fun K hK => ?_)
                  refine goes_ Tryd.func13 (by kernel_rfl) rfl #[.slice A9 1 c9, .slice (some ⟨(Wz.drew.alloc (.cells #[.int .i64 x.f0, .int .i64 x.f1, .string x.f2, .slice A8 x.f3.length c8, .int .u64 sm] 33)).heap.size, 0, none⟩) 1 1] (by rfl) rfl rfl (by (try simp only [List.map_toArray, List.map_cons, List.map_nil]); first | done | rfl) ?_
                  refine (same_calls A9 c9 (some ⟨(Wz.drew.alloc (.cells #[.int .i64 x.f0, .int .i64 x.f1, .string x.f2, .slice A8 x.f3.length c8, .int .u64 sm] 33)).heap.size, 0, none⟩) 1 [(⟨x.f0, x.f1, x.f2, x.f3, sm⟩ : S30)] _ ct_3.out c23_3.out (by intro z hz; obtain rfl := List.mem_singleton.1 hz; have := HXS.out.2.1; show x.f3.length ≤ _; omega)).mono ?_
                  rintro e V4 ⟨rfl, hb⟩
                  refine ⟨_, rfl, ?_⟩
                  have HQ4 := Aside0.mk (HQ3.out.trans (hb.mono HQ3.out.size))
                  clear hb
                  refine hK.out _ _ ⟨pw_cell_below HQ4.out q0, pw_cell_below HQ4.out q1, pw_cell_below HQ4.out q2, pw_cell_below HQ4.out q3, pw_cell_below HQ4.out q4, pw_cell_below HQ4.out p0, pw_cell_below HQ4.out p1, pw_cell_below HQ4.out p2, pw_cell_below HQ4.out p3, pw_cell_below HQ4.out p4⟩ (fun hHeld => ?_)
                  clear hK K
                  refine norm_ (a' := ?_) ?_ ?_
                  rotate_left
                  · show Act.put _ (some 72) _ = _
                    simp only [Act.put, List.setIfInBounds_toArray, List.set_cons_zero, List.set_cons_succ, i64_w, i32_w]
                    rfl
                  refine pure_ (i := 6) (N := (some 73)) (v := ?_) (a' := ?_) #[true, true, true, true, true, true, true] rfl rfl (any_of HT_.out (by kernel_rfl)) (fun _ _ _ h => h) (Or.inl ⟨by rfl, ?_⟩) ?_ ?_
                  rotate_left
                  · intro w'
                    go_simp
                    with_reducible rfl
                  rotate_left
                  · simp only [Act.put, List.setIfInBounds_toArray, List.set_cons_zero, List.set_cons_succ, i64_w, i32_w]
                    rfl
                  refine done_ (done_of HT_.out (by kernel_rfl)) ?_
                  have hk31 := HLe.out
                  go_wp2
                  go_roundw
                  case rel =>
                    exact ⟨k + 1, v9, by go_num, by rw [HA.out, HAE.out, lastS_snoc], by omega, ⟨by rw [HA.out, HAE.out]; exact HWz.out.below HQ4.out⟩, ⟨by rw [HA.out]; rw [HAE.out]; exact HCz.out.below HQ4.out⟩, ⟨HBz.out.trans (HQ4.out.mono HBz.out.size)⟩⟩
                  case measure => simp [intOf]; omega
              · refine event_step (v := .slice (some ⟨Wz.drew.heap.size, 0, none⟩) 1 1) (w1 := (Wz.drew.alloc (.cells #[.int .i64 x.f0, .int .i64 x.f1, .string x.f2, .slice A3 x.f3.length c3, .int .u64 sm] 30))) (by rfl) (by first | (go_simp; done) | (go_simp; rfl)) ?_
                have HQ1 := Aside0.mk (below_alloc HQ0.out (.cells #[.int .i64 x.f0, .int .i64 x.f1, .string x.f2, .slice A3 x.f3.length c3, .int .u64 sm] 30))
                have c23_1 := Aside0.mk (ent_one (heap_alloc_new Wz.drew (.cells #[.int .i64 x.f0, .int .i64 x.f1, .string x.f2, .slice A3 x.f3.length c3, .int .u64 sm] 30)) (k30_mk _ (⟨x.f0, x.f1, x.f2, x.f3, sm⟩ : S30) HYL.out (Kd.C_below HY.out HQ1.out)))
                refine hK.out _ _ ⟨pw_cell_below HQ1.out q0, pw_cell_below HQ1.out q1, pw_cell_below HQ1.out q2, pw_cell_below HQ1.out q3, pw_cell_below HQ1.out q4, pw_cell_below HQ1.out p0, pw_cell_below HQ1.out p1, pw_cell_below HQ1.out p2, pw_cell_below HQ1.out p3, pw_cell_below HQ1.out p4⟩ (fun hHeld => ?_)
                clear hK K
                refine norm_ (a' := ?_) ?_ ?_
                rotate_left
                · show Act.put _ (some 71) _ = _
                  simp only [Act.put, List.setIfInBounds_toArray, List.set_cons_zero, List.set_cons_succ, i64_w, i32_w]
                  rfl
                refine one_ (i := 1) (N := (some 68)) #[true, true, false, true, true, false, false] rfl rfl (one_of HT_.out (by kernel_rfl)) (by decide) (fun K hK => ?_)
                refine event_step (v := .slice (some ⟨(Wz.drew.alloc (.cells #[.int .i64 x.f0, .int .i64 x.f1, .string x.f2, .slice A3 x.f3.length c3, .int .u64 sm] 30)).heap.size, 0, none⟩) 1 1) (w1 := ((Wz.drew.alloc (.cells #[.int .i64 x.f0, .int .i64 x.f1, .string x.f2, .slice A3 x.f3.length c3, .int .u64 sm] 30)).alloc (.cells #[.int .i64 x.f0, .int .i64 x.f1, .string x.f2, .slice A8 x.f3.length c8, .int .u64 sm] 33))) (by rfl) (by first | (go_simp; done) | (go_simp; rfl)) ?_
                have HQ2 := Aside0.mk (below_alloc HQ1.out (.cells #[.int .i64 x.f0, .int .i64 x.f1, .string x.f2, .slice A8 x.f3.length c8, .int .u64 sm] 33))
                have c23_2 := Aside0.mk (Kd.C_below c23_1.out (below_alloc (Below.refl _ _) (.cells #[.int .i64 x.f0, .int .i64 x.f1, .string x.f2, .slice A8 x.f3.length c8, .int .u64 sm] 33)))
                have c37_2 := Aside0.mk (ent_one (heap_alloc_new (Wz.drew.alloc (.cells #[.int .i64 x.f0, .int .i64 x.f1, .string x.f2, .slice A3 x.f3.length c3, .int .u64 sm] 30)) (.cells #[.int .i64 x.f0, .int .i64 x.f1, .string x.f2, .slice A8 x.f3.length c8, .int .u64 sm] 33)) (k30_mk _ (⟨x.f0, x.f1, x.f2, x.f3, sm⟩ : S30) HL8.out (Kd.C_below HC8.out HQ2.out)))
                refine hK.out _ _ ⟨pw_cell_below HQ2.out q0, pw_cell_below HQ2.out q1, pw_cell_below HQ2.out q2, pw_cell_below HQ2.out q3, pw_cell_below HQ2.out q4, pw_cell_below HQ2.out p0, pw_cell_below HQ2.out p1, pw_cell_below HQ2.out p2, pw_cell_below HQ2.out p3, pw_cell_below HQ2.out p4⟩ (fun hHeld => ?_)
                clear hK K
                refine norm_ (a' := ?_) ?_ ?_
                rotate_left
                · show Act.put _ (some 68) _ = _
                  simp only [Act.put, List.setIfInBounds_toArray, List.set_cons_zero, List.set_cons_succ, i64_w, i32_w]
                  rfl
                refine one_ (i := 2) (N := (some 69)) #[true, true, true, true, true, false, false] rfl rfl (one_of HT_.out (by kernel_rfl)) (by decide) (fun K hK => ?_)
                refine goes_ Tryd.func14 (by kernel_rfl) rfl #[.slice (some ⟨(Wz.drew.alloc (.cells #[.int .i64 x.f0, .int .i64 x.f1, .string x.f2, .slice A3 x.f3.length c3, .int .u64 sm] 30)).heap.size, 0, none⟩) 1 1] (by rfl) rfl rfl (by (try simp only [List.map_toArray, List.map_cons, List.map_nil]); first | done | rfl) ?_
                refine (told_calls (some ⟨(Wz.drew.alloc (.cells #[.int .i64 x.f0, .int .i64 x.f1, .string x.f2, .slice A3 x.f3.length c3, .int .u64 sm] 30)).heap.size, 0, none⟩) 1 [(⟨x.f0, x.f1, x.f2, x.f3, sm⟩ : S30)] _ c37_2.out (by simp)).mono ?_
                rintro e V3 ⟨A9, c9, rfl, hc9, hC, hb⟩
                refine ⟨_, rfl, ?_⟩
                have HQ3 := Aside0.mk (HQ2.out.trans (hb.mono HQ2.out.size))
                have c37_3 := Aside0.mk (Kd.C_below c37_2.out hb)
                have c23_3 := Aside0.mk (Kd.C_below c23_2.out hb)
                have ct_3 := Aside0.mk hC
                clear hb hC
                refine hK.out _ _ ⟨pw_cell_below HQ3.out q0, pw_cell_below HQ3.out q1, pw_cell_below HQ3.out q2, pw_cell_below HQ3.out q3, pw_cell_below HQ3.out q4, pw_cell_below HQ3.out p0, pw_cell_below HQ3.out p1, pw_cell_below HQ3.out p2, pw_cell_below HQ3.out p3, pw_cell_below HQ3.out p4⟩ (fun hHeld => ?_)
                clear hK K
                refine norm_ (a' := ?_) ?_ ?_
                rotate_left
                · show Act.put _ (some 69) _ = _
                  simp only [Act.put, List.setIfInBounds_toArray, List.set_cons_zero, List.set_cons_succ, i64_w, i32_w]
                  rfl
                refine one_ (i := 5) (N := (some 72)) #[true, true, true, true, true, true, false] rfl rfl (one_of HT_.out (by kernel_rfl)) (by decide) (fun K hK => ?_)
                refine goes_ Tryd.func13 (by kernel_rfl) rfl #[.slice A9 1 c9, .slice (some ⟨Wz.drew.heap.size, 0, none⟩) 1 1] (by rfl) rfl rfl (by (try simp only [List.map_toArray, List.map_cons, List.map_nil]); first | done | rfl) ?_
                refine (same_calls A9 c9 (some ⟨Wz.drew.heap.size, 0, none⟩) 1 [(⟨x.f0, x.f1, x.f2, x.f3, sm⟩ : S30)] _ ct_3.out c23_3.out (by intro z hz; obtain rfl := List.mem_singleton.1 hz; have := HXS.out.2.1; show x.f3.length ≤ _; omega)).mono ?_
                rintro e V4 ⟨rfl, hb⟩
                refine ⟨_, rfl, ?_⟩
                have HQ4 := Aside0.mk (HQ3.out.trans (hb.mono HQ3.out.size))
                clear hb
                refine hK.out _ _ ⟨pw_cell_below HQ4.out q0, pw_cell_below HQ4.out q1, pw_cell_below HQ4.out q2, pw_cell_below HQ4.out q3, pw_cell_below HQ4.out q4, pw_cell_below HQ4.out p0, pw_cell_below HQ4.out p1, pw_cell_below HQ4.out p2, pw_cell_below HQ4.out p3, pw_cell_below HQ4.out p4⟩ (fun hHeld => ?_)
                clear hK K
                refine norm_ (a' := ?_) ?_ ?_
                rotate_left
                · show Act.put _ (some 72) _ = _
                  simp only [Act.put, List.setIfInBounds_toArray, List.set_cons_zero, List.set_cons_succ, i64_w, i32_w]
                  rfl
                refine pure_ (i := 6) (N := (some 73)) (v := ?_) (a' := ?_) #[true, true, true, true, true, true, true] rfl rfl (any_of HT_.out (by kernel_rfl)) (fun _ _ _ h => h) (Or.inl ⟨by rfl, ?_⟩) ?_ ?_
                rotate_left
                · intro w'
                  go_simp
                  with_reducible rfl
                rotate_left
                · simp only [Act.put, List.setIfInBounds_toArray, List.set_cons_zero, List.set_cons_succ, i64_w, i32_w]
                  rfl
                refine done_ (done_of HT_.out (by kernel_rfl)) ?_
                have hk31 := HLe.out
                go_wp2
                go_roundw
                case rel =>
                  exact ⟨k + 1, v9, by go_num, by rw [HA.out, HAE.out, lastS_snoc], by omega, ⟨by rw [HA.out, HAE.out]; exact HWz.out.below HQ4.out⟩, ⟨by rw [HA.out]; rw [HAE.out]; exact HCz.out.below HQ4.out⟩, ⟨HBz.out.trans (HQ4.out.mono HBz.out.size)⟩⟩
                case measure => simp [intOf]; omega
            · refine event_step (v := .pointer (some ⟨W7.heap.size, 0, none⟩)) (w1 := (W7.drew.alloc (.cells #[.int .i64 0, .int .i64 0, .string ⟨#[]⟩, .slice none 0 0, .int .u64 0] 33))) (by rfl) (by first | (go_simp; done) | (go_simp; rfl)) ?_
              have HBq := Aside0.mk (below_alloc HBs.out (.cells #[.int .i64 0, .int .i64 0, .string ⟨#[]⟩, .slice none 0 0, .int .u64 0] 33))
              have B9q := Aside0.mk (blk_alloc B9s.out (.cells #[.int .i64 0, .int .i64 0, .string ⟨#[]⟩, .slice none 0 0, .int .u64 0] 33))
              have HCq := Aside0.mk ((HCs.out.elder W7.heap.size (Nat.le_refl _)).below (below_alloc (Below.refl _ _) (.cells #[.int .i64 0, .int .i64 0, .string ⟨#[]⟩, .slice none 0 0, .int .u64 0] 33)))
              have HWq := Aside0.mk (HWs.out.below (below_alloc (Below.refl _ _) (.cells #[.int .i64 0, .int .i64 0, .string ⟨#[]⟩, .slice none 0 0, .int .u64 0] 33)))
              have B10q : Aside0 ((W7.drew.alloc (.cells #[.int .i64 0, .int .i64 0, .string ⟨#[]⟩, .slice none 0 0, .int .u64 0] 33)).heap[W7.heap.size]? = some (.cells #[.int .i64 0, .int .i64 0, .string ⟨#[]⟩, .slice none 0 0, .int .u64 0] 33)) := ⟨heap_alloc_new W7.drew _⟩
              refine hK.out _ _ ⟨pw_cell_below HBq.out g0, pw_cell_below HBq.out g1, pw_cell_below HBq.out g2, pw_cell_below HBq.out g3⟩ (fun hHeld => ?_)
              clear hK K
              refine norm_ (a' := ?_) ?_ ?_
              rotate_left
              · show Act.put _ (some 10) _ = _
                simp only [Act.put, List.setIfInBounds_toArray, List.set_cons_zero, List.set_cons_succ, i64_w, i32_w]
                rfl
              refine one_ (i := 21) (N := (some 66)) #[true, true, true, true, true, true, true, true, true, true, true, true, true, true, true, true, true, true, true, true, true, true, true, false] rfl rfl (one_of HT_.out (by kernel_rfl)) (by decide) (fun K hK => ?_)
              refine goes_ Tryd.func12 (by kernel_rfl) rfl #[.pointer (some ⟨w2.heap.size, 0, none⟩), .int .i64 x.f0, .int .i64 x.f1, .string x.f2, .slice A3 x.f3.length c3] (by rfl) rfl rfl (by (try simp only [List.map_toArray, List.map_cons, List.map_nil]); first | done | rfl) ?_
              refine (add_calls w2.heap.size v seed acc x.f0 x.f1 x.f2 A3 c3 x.f3 (W7.drew.alloc (.cells #[.int .i64 0, .int .i64 0, .string ⟨#[]⟩, .slice none 0 0, .int .u64 0] 33)) HCq.out (Kd.C_below HC3.out HBq.out) (HT2.out.below HBq.out) (by have := HXS.out.2.1; omega) (by have := HAL.out; omega) (fun s hs => by have := HXS.out.2.2 s hs; omega) (by have := HXS.out.1; omega) (fun j hj => by have h1 := blk_lt HCq.out.blk; have h2 := blk_lt B10q.out; have h3 : W7.drew.heap.size = W7.heap.size := rfl; refine ⟨?_, ?_⟩ <;> (try show j ≠ _) <;> omega) HBq.out.size).mono ?_
              rintro e W8 ⟨⟨v8, rfl, hR8⟩, hF8, v9, hC9, hat9⟩
              rw [HAE.out] at hR8 hC9
              change Kd.string.R 9 W8 _ any v8 x.f3 at hR8
              obtain ⟨A8, c8, rfl⟩ := Kd.R_slice hR8
              refine ⟨.agg #[.int .i64 x.f0, .int .i64 x.f1, .string x.f2, .slice A8 x.f3.length c8, .int .u64 sm], by rw [HAE.out]; rfl, ?_⟩
              have HBa := Aside0.mk (HBq.out.trans (hF8.toBelow (B := w2.heap.size) HBq.out.size (fun j hj => (HCq.out.ch_lt j hj).2)))
              have B9a := Aside0.mk (hF8.blk B9q.out (fun hj => by have := HV4.out _ hj; omega))
              have HWa := Aside0.mk (own_fr HWq.out hF8 (fun j hj hs => by obtain ⟨cl, t, ht, hc⟩ := HCq.out.own_typed j hs; obtain ⟨cl', hc'⟩ := own_row_typed HWq.out j hj; rw [hc] at hc'; rcases ht with rfl | rfl <;> cases hc'))
              have HCa := Aside0.mk hC9
              have HR8 := Aside0.mk hR8
              have B10a := Aside0.mk (hF8.blk B10q.out (fun hj => by have := HV4.out _ hj; have h2 := blk_lt B9s.out; have h3 : W7.drew.heap.size = W7.heap.size := rfl; omega))
              clear hF8 hC9 hat9 hR8
              refine hK.out _ _ ⟨pw_cell_below HBa.out g0, pw_cell_below HBa.out g1, pw_cell_below HBa.out g2, pw_cell_below HBa.out g3⟩ (fun hHeld => ?_)
              clear hK K
              refine norm_ (a' := ?_) ?_ ?_
              rotate_left
              · show Act.put _ (some 66) _ = _
                simp only [Act.put, List.setIfInBounds_toArray, List.set_cons_zero, List.set_cons_succ, i64_w, i32_w]
                rfl
              refine one_ (i := 23) (N := none) #[true, true, true, true, true, true, true, true, true, true, true, true, true, true, true, true, true, true, true, true, true, true, true, true] rfl rfl (one_of HT_.out (by kernel_rfl)) (by decide) (fun K hK => ?_)
              obtain ⟨q0, q1, q2, q3, q4, qs⟩ := five B10a.out
              have fq := blk_frozen B10a.out
              refine skip_ (w1 := set5 W8 W7.heap.size (.int .i64 x.f0) (.int .i64 x.f1) (.string x.f2) (.slice A8 x.f3.length c8) (.int .u64 sm)) (by rfl) rfl (by first | (go_simp; done) | (go_simp; rfl)) ?_
              clear q0 q1 q2 q3 q4 qs fq
              have Fz := Aside0.mk (set5_fr W8 W7.heap.size (.int .i64 x.f0) (.int .i64 x.f1) (.string x.f2) (.slice A8 x.f3.length c8) (.int .u64 sm))
              have B10z := Aside0.mk (set5_blk B10a.out (.int .i64 x.f0) (.int .i64 x.f1) (.string x.f2) (.slice A8 x.f3.length c8) (.int .u64 sm))
              have hbn : w2.heap.size < W7.heap.size ∧ wr.heap.size < W7.heap.size := by have h1 := HLw.out; have h3 := blk_lt B9s.out; have h4 : W7.drew.heap.size = W7.heap.size := rfl; have h5 := blk_lt B9a.out; omega
              have HBz := Aside0.mk (HBa.out.trans (Fz.out.toBelow (B := w2.heap.size) HBa.out.size (fun j hj => by have hj' : j = _ := hj; have := hbn.1; omega)))
              have B9z := Aside0.mk (Fz.out.blk B9a.out (fun hj => by have hj' : wr.heap.size = _ := hj; have := hbn.2; omega))
              have HCz := Aside0.mk ((HCa.out.fr Fz.out (fun hj => by have hj' : w2.heap.size = _ := hj; have := hbn.1; omega) (fun j _ _ ho hj => ho.2 hj)).mono (fun _ hk => hk.1) (fun h => h rfl))
              have HR8z := Aside0.mk (R_fr HR8.out Fz.out (fun j h1 _ _ hj => by have h2 := blk_lt B10q.out; have hj' : j = _ := hj; have h3 : W7.drew.heap.size = W7.heap.size := rfl; omega))
              have HWz := Aside0.mk (own_fr HWa.out Fz.out (fun j hj hj2 => by have hj' : j = _ := hj2; subst hj'; obtain ⟨cl, hc⟩ := own_row_typed HWa.out _ hj; rw [B10a.out] at hc; cases hc))
              obtain ⟨Wz, ez⟩ : ∃ Wz, Wz = set5 W8 W7.heap.size (.int .i64 x.f0) (.int .i64 x.f1) (.string x.f2) (.slice A8 x.f3.length c8) (.int .u64 sm) := ⟨_, rfl⟩
              have ez' := ez.symm
              obtain ⟨A8', c8', e8, hl8, hC8⟩ := Kd.R_reads HR8z.out
              obtain ⟨rfl, rfl⟩ : A8 = A8' ∧ c8 = c8' := by cases e8; exact ⟨rfl, rfl⟩
              rw [← ez] at HBz B9z HCz HWz B10z hC8
              have HC8 := Aside0.mk hC8
              have HL8 := Aside0.mk hl8
              clear hC8 hl8 e8 HR8z
              rw [ez']
              clear ez ez'
              refine hK.out _ _ ⟨pw_cell_below HBz.out g0, pw_cell_below HBz.out g1, pw_cell_below HBz.out g2, pw_cell_below HBz.out g3⟩ (fun hHeld => ?_)
              clear hK K
              refine done_ (done_of HT_.out (by kernel_rfl)) ?_
              obtain ⟨q0, q1, q2, q3, q4, qs⟩ := five B10z.out
              obtain ⟨p0, p1, p2, p3, p4, ps⟩ := five B9z.out
              have HQ0 := Aside0.mk (below_drew (Below.refl Wz.heap.size Wz))
              have HY := Aside0.mk (Kd.C_below HC3.out HBz.out)
              have HYL : Aside0 (x.f3.length ≤ c3) := HL3
              go_wp2_with fail
              refine start_ (n := 7) (S := fun W => W.cell? ⟨W7.heap.size, 0, none⟩ = some (.int .i64 x.f0) ∧ W.cell? ⟨W7.heap.size, 1, none⟩ = some (.int .i64 x.f1) ∧ W.cell? ⟨W7.heap.size, 2, none⟩ = some (.string x.f2) ∧ W.cell? ⟨W7.heap.size, 3, none⟩ = some (.slice A8 x.f3.length c8) ∧ W.cell? ⟨W7.heap.size, 4, none⟩ = some (.int .u64 sm) ∧ W.cell? ⟨wr.heap.size, 0, none⟩ = some (.int .i64 x.f0) ∧ W.cell? ⟨wr.heap.size, 1, none⟩ = some (.int .i64 x.f1) ∧ W.cell? ⟨wr.heap.size, 2, none⟩ = some (.string x.f2) ∧ W.cell? ⟨wr.heap.size, 3, none⟩ = some (.slice A3 x.f3.length c3) ∧ W.cell? ⟨wr.heap.size, 4, none⟩ = some (.int .u64 sm)) (ds := []) #[false, false, false, false, false, false, false] (by kernel_rfl) rfl rfl ⟨pw_cell_below HQ0.out q0, pw_cell_below HQ0.out q1, pw_cell_below HQ0.out q2, pw_cell_below HQ0.out q3, pw_cell_below HQ0.out q4, pw_cell_below HQ0.out p0, pw_cell_below HQ0.out p1, pw_cell_below HQ0.out p2, pw_cell_below HQ0.out p3, pw_cell_below HQ0.out p4⟩ (fun hHeld => ?_)
              refine with_tabW reg3_21.tab reg3_21.bits (fun HT_ HW_ => ?_)
              refine take_ (i := 0) (N := (some 67)) (v := ?_) (a' := ?_) #[true, false, false, false, false, false, false] rfl rfl (take_ofW HT_.out HW_.out (by kernel_rfl)) (fun _ _ _ h => h) (Or.inl ⟨by rfl, ?_⟩) hHeld ?_ ?_
              rotate_left
              · rintro w' ⟨s0, s1, s2, s3, s4, t0, t1, t2, t3, t4⟩
                go_simp
                with_reducible rfl
              rotate_left
              · simp only [Act.put, List.setIfInBounds_toArray, List.set_cons_zero, List.set_cons_succ, i64_w, i32_w]
                rfl
              refine take_ (i := 3) (N := (some 70)) (v := ?_) (a' := ?_) #[true, false, false, true, false, false, false] rfl rfl (take_ofW HT_.out HW_.out (by kernel_rfl)) (fun _ _ _ h => h) (Or.inl ⟨by rfl, ?_⟩) hHeld ?_ ?_
              rotate_left
              · rintro w' ⟨s0, s1, s2, s3, s4, t0, t1, t2, t3, t4⟩
                go_simp
                with_reducible rfl
              rotate_left
              · simp only [Act.put, List.setIfInBounds_toArray, List.set_cons_zero, List.set_cons_succ, i64_w, i32_w]
                rfl
              refine two_ (i := 1) (j := 4) (Ni := (some 68)) (Nj := (some 71)) #[true, true, false, true, false, false, false] #[true, false, false, true, true, false, false] rfl rfl rfl rfl (two_of HT_.out (by kernel_rfl)) (by decide) (by decide) (fun K hK => ?_) (fun K hK => ?_)
              · refine event_step (v := .slice (some ⟨Wz.drew.heap.size, 0, none⟩) 1 1) (w1 := (Wz.drew.alloc (.cells #[.int .i64 x.f0, .int .i64 x.f1, .string x.f2, .slice A8 x.f3.length c8, .int .u64 sm] 33))) (by rfl) (by first | (go_simp; done) | (go_simp; rfl)) ?_
                have HQ1 := Aside0.mk (below_alloc HQ0.out (.cells #[.int .i64 x.f0, .int .i64 x.f1, .string x.f2, .slice A8 x.f3.length c8, .int .u64 sm] 33))
                have c37_1 := Aside0.mk (ent_one (heap_alloc_new Wz.drew (.cells #[.int .i64 x.f0, .int .i64 x.f1, .string x.f2, .slice A8 x.f3.length c8, .int .u64 sm] 33)) (k30_mk _ (⟨x.f0, x.f1, x.f2, x.f3, sm⟩ : S30) HL8.out (Kd.C_below HC8.out HQ1.out)))
                refine hK.out _ _ ⟨pw_cell_below HQ1.out q0, pw_cell_below HQ1.out q1, pw_cell_below HQ1.out q2, pw_cell_below HQ1.out q3, pw_cell_below HQ1.out q4, pw_cell_below HQ1.out p0, pw_cell_below HQ1.out p1, pw_cell_below HQ1.out p2, pw_cell_below HQ1.out p3, pw_cell_below HQ1.out p4⟩ (fun hHeld => ?_)
                clear hK K
                refine norm_ (a' := ?_) ?_ ?_
                rotate_left
                · show Act.put _ (some 68) _ = _
                  simp only [Act.put, List.setIfInBounds_toArray, List.set_cons_zero, List.set_cons_succ, i64_w, i32_w]
                  rfl
                refine two_ (i := 2) (j := 4) (Ni := (some 69)) (Nj := (some 71)) #[true, true, true, true, false, false, false] #[true, true, false, true, true, false, false] rfl rfl rfl rfl (two_of HT_.out (by kernel_rfl)) (by decide) (by decide) (fun K hK => ?_) (fun K hK => ?_)
                · refine goes_ Tryd.func14 (by kernel_rfl) rfl #[.slice (some ⟨Wz.drew.heap.size, 0, none⟩) 1 1] (by rfl) rfl rfl (by (try simp only [List.map_toArray, List.map_cons, List.map_nil]); first | done | rfl) ?_
                  refine (told_calls (some ⟨Wz.drew.heap.size, 0, none⟩) 1 [(⟨x.f0, x.f1, x.f2, x.f3, sm⟩ : S30)] _ c37_1.out (by simp)).mono ?_
                  rintro e V2 ⟨A9, c9, rfl, hc9, hC, hb⟩
                  refine ⟨_, rfl, ?_⟩
                  have HQ2 := Aside0.mk (HQ1.out.trans (hb.mono HQ1.out.size))
                  have c37_2 := Aside0.mk (Kd.C_below c37_1.out hb)
                  have ct_2 := Aside0.mk hC
                  clear hb hC
                  refine hK.out _ _ ⟨pw_cell_below HQ2.out q0, pw_cell_below HQ2.out q1, pw_cell_below HQ2.out q2, pw_cell_below HQ2.out q3, pw_cell_below HQ2.out q4, pw_cell_below HQ2.out p0, pw_cell_below HQ2.out p1, pw_cell_below HQ2.out p2, pw_cell_below HQ2.out p3, pw_cell_below HQ2.out p4⟩ (fun hHeld => ?_)
                  clear hK K
                  refine norm_ (a' := ?_) ?_ ?_
                  rotate_left
                  · show Act.put _ (some 69) _ = _
                    simp only [Act.put, List.setIfInBounds_toArray, List.set_cons_zero, List.set_cons_succ, i64_w, i32_w]
                    rfl
                  refine one_ (i := 4) (N := (some 71)) #[true, true, true, true, true, false, false] rfl rfl (one_of HT_.out (by kernel_rfl)) (by decide) (fun K hK => ?_)
                  refine event_step (v := .slice (some ⟨V2.heap.size, 0, none⟩) 1 1) (w1 := (V2.alloc (.cells #[.int .i64 x.f0, .int .i64 x.f1, .string x.f2, .slice A3 x.f3.length c3, .int .u64 sm] 30))) (by rfl) (by first | (go_simp; done) | (go_simp; rfl)) ?_
                  have HQ3 := Aside0.mk (below_alloc HQ2.out (.cells #[.int .i64 x.f0, .int .i64 x.f1, .string x.f2, .slice A3 x.f3.length c3, .int .u64 sm] 30))
                  have c37_3 := Aside0.mk (Kd.C_below c37_2.out (below_alloc (Below.refl _ _) (.cells #[.int .i64 x.f0, .int .i64 x.f1, .string x.f2, .slice A3 x.f3.length c3, .int .u64 sm] 30)))
                  have ct_3 := Aside0.mk (Kd.C_below ct_2.out (below_alloc (Below.refl _ _) (.cells #[.int .i64 x.f0, .int .i64 x.f1, .string x.f2, .slice A3 x.f3.length c3, .int .u64 sm] 30)))
                  have c23_3 := Aside0.mk (ent_one (heap_alloc_new V2 (.cells #[.int .i64 x.f0, .int .i64 x.f1, .string x.f2, .slice A3 x.f3.length c3, .int .u64 sm] 30)) (k30_mk _ (⟨x.f0, x.f1, x.f2, x.f3, sm⟩ : S30) HYL.out (Kd.C_below HY.out HQ3.out)))
                  refine hK.out _ _ ⟨pw_cell_below HQ3.out q0, pw_cell_below HQ3.out q1, pw_cell_below HQ3.out q2, pw_cell_below HQ3.out q3, pw_cell_below HQ3.out q4, pw_cell_below HQ3.out p0, pw_cell_below HQ3.out p1, pw_cell_below HQ3.out p2, pw_cell_below HQ3.out p3, pw_cell_below HQ3.out p4⟩ (fun hHeld => ?_)
                  clear hK K
                  refine norm_ (a' := ?_) ?_ ?_
                  rotate_left
                  · show Act.put _ (some 71) _ = _
                    simp only [Act.put, List.setIfInBounds_toArray, List.set_cons_zero, List.set_cons_succ, i64_w, i32_w]
                    rfl
                  refine one_ (i := 5) (N := (some 72)) #[true, true, true, true, true, true, false] rfl rfl (one_of HT_.out (by kernel_rfl)) (by decide) (fun K hK => ?_)
                  refine goes_ Tryd.func13 (by kernel_rfl) rfl #[.slice A9 1 c9, .slice (some ⟨V2.heap.size, 0, none⟩) 1 1] (by rfl) rfl rfl (by (try simp only [List.map_toArray, List.map_cons, List.map_nil]); first | done | rfl) ?_
                  refine (same_calls A9 c9 (some ⟨V2.heap.size, 0, none⟩) 1 [(⟨x.f0, x.f1, x.f2, x.f3, sm⟩ : S30)] _ ct_3.out c23_3.out (by intro z hz; obtain rfl := List.mem_singleton.1 hz; have := HXS.out.2.1; show x.f3.length ≤ _; omega)).mono ?_
                  rintro e V4 ⟨rfl, hb⟩
                  refine ⟨_, rfl, ?_⟩
                  have HQ4 := Aside0.mk (HQ3.out.trans (hb.mono HQ3.out.size))
                  clear hb
                  refine hK.out _ _ ⟨pw_cell_below HQ4.out q0, pw_cell_below HQ4.out q1, pw_cell_below HQ4.out q2, pw_cell_below HQ4.out q3, pw_cell_below HQ4.out q4, pw_cell_below HQ4.out p0, pw_cell_below HQ4.out p1, pw_cell_below HQ4.out p2, pw_cell_below HQ4.out p3, pw_cell_below HQ4.out p4⟩ (fun hHeld => ?_)
                  clear hK K
                  refine norm_ (a' := ?_) ?_ ?_
                  rotate_left
                  · show Act.put _ (some 72) _ = _
                    simp only [Act.put, List.setIfInBounds_toArray, List.set_cons_zero, List.set_cons_succ, i64_w, i32_w]
                    rfl
                  refine pure_ (i := 6) (N := (some 73)) (v := ?_) (a' := ?_) #[true, true, true, true, true, true, true] rfl rfl (any_of HT_.out (by kernel_rfl)) (fun _ _ _ h => h) (Or.inl ⟨by rfl, ?_⟩) ?_ ?_
                  rotate_left
                  · intro w'
                    go_simp
                    with_reducible rfl
                  rotate_left
                  · simp only [Act.put, List.setIfInBounds_toArray, List.set_cons_zero, List.set_cons_succ, i64_w, i32_w]
                    rfl
                  refine done_ (done_of HT_.out (by kernel_rfl)) ?_
                  have hk31 := HLe.out
                  go_wp2
                  go_roundw
                  case rel =>
                    exact ⟨k + 1, v9, by go_num, by rw [HA.out, HAE.out, lastS_snoc], by omega, ⟨by rw [HA.out, HAE.out]; exact HWz.out.below HQ4.out⟩, ⟨by rw [HA.out]; rw [HAE.out]; exact HCz.out.below HQ4.out⟩, ⟨HBz.out.trans (HQ4.out.mono HBz.out.size)⟩⟩
                  case measure => simp [intOf]; omega
                · refine event_step (v := .slice (some ⟨(Wz.drew.alloc (.cells #[.int .i64 x.f0, .int .i64 x.f1, .string x.f2, .slice A8 x.f3.length c8, .int .u64 sm] 33)).heap.size, 0, none⟩) 1 1) (w1 := ((Wz.drew.alloc (.cells #[.int .i64 x.f0, .int .i64 x.f1, .string x.f2, .slice A8 x.f3.length c8, .int .u64 sm] 33)).alloc (.cells #[.int .i64 x.f0, .int .i64 x.f1, .string x.f2, .slice A3 x.f3.length c3, .int .u64 sm] 30))) (by rfl) (by first | (go_simp; done) | (go_simp; rfl)) ?_
                  have HQ2 := Aside0.mk (below_alloc HQ1.out (.cells #[.int .i64 x.f0, .int .i64 x.f1, .string x.f2, .slice A3 x.f3.length c3, .int .u64 sm] 30))
                  have c37_2 := Aside0.mk (Kd.C_below c37_1.out (below_alloc (Below.refl _ _) (.cells #[.int .i64 x.f0, .int .i64 x.f1, .string x.f2, .slice A3 x.f3.length c3, .int .u64 sm] 30)))
                  have c23_2 := Aside0.mk (ent_one (heap_alloc_new (Wz.drew.alloc (.cells #[.int .i64 x.f0, .int .i64 x.f1, .string x.f2, .slice A8 x.f3.length c8, .int .u64 sm] 33)) (.cells #[.int .i64 x.f0, .int .i64 x.f1, .string x.f2, .slice A3 x.f3.length c3, .int .u64 sm] 30)) (k30_mk _ (⟨x.f0, x.f1, x.f2, x.f3, sm⟩ : S30) HYL.out (Kd.C_below HY.out HQ2.out)))
                  refine hK.out _ _ ⟨pw_cell_below HQ2.out q0, pw_cell_below HQ2.out q1, pw_cell_below HQ2.out q2, pw_cell_below HQ2.out q3, pw_cell_below HQ2.out q4, pw_cell_below HQ2.out p0, pw_cell_below HQ2.out p1, pw_cell_below HQ2.out p2, pw_cell_below HQ2.out p3, pw_cell_below HQ2.out p4⟩ (fun hHeld => ?_)
                  clear hK K
                  refine norm_ (a' := ?_) ?_ ?_
                  rotate_left
                  · show Act.put _ (some 71) _ = _
                    simp only [Act.put, List.setIfInBounds_toArray, List.set_cons_zero, List.set_cons_succ, i64_w, i32_w]
                    rfl
                  refine one_ (i := 2) (N := (some 69)) #[true, true, true, true, true, false, false] rfl rfl (one_of HT_.out (by kernel_rfl)) (by decide) (fun K hK => ?_)
                  refine goes_ Tryd.func14 (by kernel_rfl) rfl #[.slice (some ⟨Wz.drew.heap.size, 0, none⟩) 1 1] (by rfl) rfl rfl (by (try simp only [List.map_toArray, List.map_cons, List.map_nil]); first | done | rfl) ?_
                  refine (told_calls (some ⟨Wz.drew.heap.size, 0, none⟩) 1 [(⟨x.f0, x.f1, x.f2, x.f3, sm⟩ : S30)] _ c37_2.out (by simp)).mono ?_
                  rintro e V3 ⟨A9, c9, rfl, hc9, hC, hb⟩
                  refine ⟨_, rfl, ?_⟩
                  have HQ3 := Aside0.mk (HQ2.out.trans (hb.mono HQ2.out.size))
                  have c37_3 := Aside0.mk (Kd.C_below c37_2.out hb)
                  have c23_3 := Aside0.mk (Kd.C_below c23_2.out hb)
                  have ct_3 := Aside0.mk hC
                  clear hb hC
                  refine hK.out _ _ ⟨pw_cell_below HQ3.out q0, pw_cell_below HQ3.out q1, pw_cell_below HQ3.out q2, pw_cell_below HQ3.out q3, pw_cell_below HQ3.out q4, pw_cell_below HQ3.out p0, pw_cell_below HQ3.out p1, pw_cell_below HQ3.out p2, pw_cell_below HQ3.out p3, pw_cell_below HQ3.out p4⟩ (fun hHeld => ?_)
                  clear hK K
                  refine norm_ (a' := ?_) ?_ ?_
                  rotate_left
                  · show Act.put _ (some 69) _ = _
                    simp only [Act.put, List.setIfInBounds_toArray, List.set_cons_zero, List.set_cons_succ, i64_w, i32_w]
                    rfl
                  refine one_ (i := 5) (N := (some 72)) #[true, true, true, true, true, true, false] rfl rfl (one_of HT_.out (by kernel_rfl)) (by decide) (fun K hK => ?_)
                  refine goes_ Tryd.func13 (by kernel_rfl) rfl #[.slice A9 1 c9, .slice (some ⟨(Wz.drew.alloc (.cells #[.int .i64 x.f0, .int .i64 x.f1, .string x.f2, .slice A8 x.f3.length c8, .int .u64 sm] 33)).heap.size, 0, none⟩) 1 1] (by rfl) rfl rfl (by (try simp only [List.map_toArray, List.map_cons, List.map_nil]); first | done | rfl) ?_
                  refine (same_calls A9 c9 (some ⟨(Wz.drew.alloc (.cells #[.int .i64 x.f0, .int .i64 x.f1, .string x.f2, .slice A8 x.f3.length c8, .int .u64 sm] 33)).heap.size, 0, none⟩) 1 [(⟨x.f0, x.f1, x.f2, x.f3, sm⟩ : S30)] _ ct_3.out c23_3.out (by intro z hz; obtain rfl := List.mem_singleton.1 hz; have := HXS.out.2.1; show x.f3.length ≤ _; omega)).mono ?_
                  rintro e V4 ⟨rfl, hb⟩
                  refine ⟨_, rfl, ?_⟩
                  have HQ4 := Aside0.mk (HQ3.out.trans (hb.mono HQ3.out.size))
                  clear hb
                  refine hK.out _ _ ⟨pw_cell_below HQ4.out q0, pw_cell_below HQ4.out q1, pw_cell_below HQ4.out q2, pw_cell_below HQ4.out q3, pw_cell_below HQ4.out q4, pw_cell_below HQ4.out p0, pw_cell_below HQ4.out p1, pw_cell_below HQ4.out p2, pw_cell_below HQ4.out p3, pw_cell_below HQ4.out p4⟩ (fun hHeld => ?_)
                  clear hK K
                  refine norm_ (a' := ?_) ?_ ?_
                  rotate_left
                  · show Act.put _ (some 72) _ = _
                    simp only [Act.put, List.setIfInBounds_toArray, List.set_cons_zero, List.set_cons_succ, i64_w, i32_w]
                    rfl
                  refine pure_ (i := 6) (N := (some 73)) (v := ?_) (a' := ?_) #[true, true, true, true, true, true, true] rfl rfl (any_of HT_.out (by kernel_rfl)) (fun _ _ _ h => h) (Or.inl ⟨by rfl, ?_⟩) ?_ ?_
                  rotate_left
                  · intro w'
                    go_simp
                    with_reducible rfl
                  rotate_left
                  · simp only [Act.put, List.setIfInBounds_toArray, List.set_cons_zero, List.set_cons_succ, i64_w, i32_w]
                    rfl
                  refine done_ (done_of HT_.out (by kernel_rfl)) ?_
                  have hk31 := HLe.out
                  go_wp2
                  go_roundw
                  case rel =>
                    exact ⟨k + 1, v9, by go_num, by rw [HA.out, HAE.out, lastS_snoc], by omega, ⟨by rw [HA.out, HAE.out]; exact HWz.out.below HQ4.out⟩, ⟨by rw [HA.out]; rw [HAE.out]; exact HCz.out.below HQ4.out⟩, ⟨HBz.out.trans (HQ4.out.mono HBz.out.size)⟩⟩
                  case measure => simp [intOf]; omega
              · refine event_step (v := .slice (some ⟨Wz.drew.heap.size, 0, none⟩) 1 1) (w1 := (Wz.drew.alloc (.cells #[.int .i64 x.f0, .int .i64 x.f1, .string x.f2, .slice A3 x.f3.length c3, .int .u64 sm] 30))) (by rfl) (by first | (go_simp; done) | (go_simp; rfl)) ?_
                have HQ1 := Aside0.mk (below_alloc HQ0.out (.cells #[.int .i64 x.f0, .int .i64 x.f1, .string x.f2, .slice A3 x.f3.length c3, .int .u64 sm] 30))
                have c23_1 := Aside0.mk (ent_one (heap_alloc_new Wz.drew (.cells #[.int .i64 x.f0, .int .i64 x.f1, .string x.f2, .slice A3 x.f3.length c3, .int .u64 sm] 30)) (k30_mk _ (⟨x.f0, x.f1, x.f2, x.f3, sm⟩ : S30) HYL.out (Kd.C_below HY.out HQ1.out)))
                refine hK.out _ _ ⟨pw_cell_below HQ1.out q0, pw_cell_below HQ1.out q1, pw_cell_below HQ1.out q2, pw_cell_below HQ1.out q3, pw_cell_below HQ1.out q4, pw_cell_below HQ1.out p0, pw_cell_below HQ1.out p1, pw_cell_below HQ1.out p2, pw_cell_below HQ1.out p3, pw_cell_below HQ1.out p4⟩ (fun hHeld => ?_)
                clear hK K
                refine norm_ (a' := ?_) ?_ ?_
                rotate_left
                · show Act.put _ (some 71) _ = _
                  simp only [Act.put, List.setIfInBounds_toArray, List.set_cons_zero, List.set_cons_succ, i64_w, i32_w]
                  rfl
                refine one_ (i := 1) (N := (some 68)) #[true, true, false, true, true, false, false] rfl rfl (one_of HT_.out (by kernel_rfl)) (by decide) (fun K hK => ?_)
                refine event_step (v := .slice (some ⟨(Wz.drew.alloc (.cells #[.int .i64 x.f0, .int .i64 x.f1, .string x.f2, .slice A3 x.f3.length c3, .int .u64 sm] 30)).heap.size, 0, none⟩) 1 1) (w1 := ((Wz.drew.alloc (.cells #[.int .i64 x.f0, .int .i64 x.f1, .string x.f2, .slice A3 x.f3.length c3, .int .u64 sm] 30)).alloc (.cells #[.int .i64 x.f0, .int .i64 x.f1, .string x.f2, .slice A8 x.f3.length c8, .int .u64 sm] 33))) (by rfl) (by first | (go_simp; done) | (go_simp; rfl)) ?_
                have HQ2 := Aside0.mk (below_alloc HQ1.out (.cells #[.int .i64 x.f0, .int .i64 x.f1, .string x.f2, .slice A8 x.f3.length c8, .int .u64 sm] 33))
                have c23_2 := Aside0.mk (Kd.C_below c23_1.out (below_alloc (Below.refl _ _) (.cells #[.int .i64 x.f0, .int .i64 x.f1, .string x.f2, .slice A8 x.f3.length c8, .int .u64 sm] 33)))
                have c37_2 := Aside0.mk (ent_one (heap_alloc_new (Wz.drew.alloc (.cells #[.int .i64 x.f0, .int .i64 x.f1, .string x.f2, .slice A3 x.f3.length c3, .int .u64 sm] 30)) (.cells #[.int .i64 x.f0, .int .i64 x.f1, .string x.f2, .slice A8 x.f3.length c8, .int .u64 sm] 33)) (k30_mk _ (⟨x.f0, x.f1, x.f2, x.f3, sm⟩ : S30) HL8.out (Kd.C_below HC8.out HQ2.out)))
                refine hK.out _ _ ⟨pw_cell_below HQ2.out q0, pw_cell_below HQ2.out q1, pw_cell_below HQ2.out q2, pw_cell_below HQ2.out q3, pw_cell_below HQ2.out q4, pw_cell_below HQ2.out p0, pw_cell_below HQ2.out p1, pw_cell_below HQ2.out p2, pw_cell_below HQ2.out p3, pw_cell_below HQ2.out p4⟩ (fun hHeld => ?_)
                clear hK K
                refine norm_ (a' := ?_) ?_ ?_
                rotate_left
                · show Act.put _ (some 68) _ = _
                  simp only [Act.put, List.setIfInBounds_toArray, List.set_cons_zero, List.set_cons_succ, i64_w, i32_w]
                  rfl
                refine one_ (i := 2) (N := (some 69)) #[true, true, true, true, true, false, false] rfl rfl (one_of HT_.out (by kernel_rfl)) (by decide) (fun K hK => ?_)
                refine goes_ Tryd.func14 (by kernel_rfl) rfl #[.slice (some ⟨(Wz.drew.alloc (.cells #[.int .i64 x.f0, .int .i64 x.f1, .string x.f2, .slice A3 x.f3.length c3, .int .u64 sm] 30)).heap.size, 0, none⟩) 1 1] (by rfl) rfl rfl (by (try simp only [List.map_toArray, List.map_cons, List.map_nil]); first | done | rfl) ?_
                refine (told_calls (some ⟨(Wz.drew.alloc (.cells #[.int .i64 x.f0, .int .i64 x.f1, .string x.f2, .slice A3 x.f3.length c3, .int .u64 sm] 30)).heap.size, 0, none⟩) 1 [(⟨x.f0, x.f1, x.f2, x.f3, sm⟩ : S30)] _ c37_2.out (by simp)).mono ?_
                rintro e V3 ⟨A9, c9, rfl, hc9, hC, hb⟩
                refine ⟨_, rfl, ?_⟩
                have HQ3 := Aside0.mk (HQ2.out.trans (hb.mono HQ2.out.size))
                have c37_3 := Aside0.mk (Kd.C_below c37_2.out hb)
                have c23_3 := Aside0.mk (Kd.C_below c23_2.out hb)
                have ct_3 := Aside0.mk hC
                clear hb hC
                refine hK.out _ _ ⟨pw_cell_below HQ3.out q0, pw_cell_below HQ3.out q1, pw_cell_below HQ3.out q2, pw_cell_below HQ3.out q3, pw_cell_below HQ3.out q4, pw_cell_below HQ3.out p0, pw_cell_below HQ3.out p1, pw_cell_below HQ3.out p2, pw_cell_below HQ3.out p3, pw_cell_below HQ3.out p4⟩ (fun hHeld => ?_)
                clear hK K
                refine norm_ (a' := ?_) ?_ ?_
                rotate_left
                · show Act.put _ (some 69) _ = _
                  simp only [Act.put, List.setIfInBounds_toArray, List.set_cons_zero, List.set_cons_succ, i64_w, i32_w]
                  rfl
                refine one_ (i := 5) (N := (some 72)) #[true, true, true, true, true, true, false] rfl rfl (one_of HT_.out (by kernel_rfl)) (by decide) (fun K hK => ?_)
                refine goes_ Tryd.func13 (by kernel_rfl) rfl #[.slice A9 1 c9, .slice (some ⟨Wz.drew.heap.size, 0, none⟩) 1 1] (by rfl) rfl rfl (by (try simp only [List.map_toArray, List.map_cons, List.map_nil]); first | done | rfl) ?_
                refine (same_calls A9 c9 (some ⟨Wz.drew.heap.size, 0, none⟩) 1 [(⟨x.f0, x.f1, x.f2, x.f3, sm⟩ : S30)] _ ct_3.out c23_3.out (by intro z hz; obtain rfl := List.mem_singleton.1 hz; have := HXS.out.2.1; show x.f3.length ≤ _; omega)).mono ?_
                rintro e V4 ⟨rfl, hb⟩
                refine ⟨_, rfl, ?_⟩
                have HQ4 := Aside0.mk (HQ3.out.trans (hb.mono HQ3.out.size))
                clear hb
                refine hK.out _ _ ⟨pw_cell_below HQ4.out q0, pw_cell_below HQ4.out q1, pw_cell_below HQ4.out q2, pw_cell_below HQ4.out q3, pw_cell_below HQ4.out q4, pw_cell_below HQ4.out p0, pw_cell_below HQ4.out p1, pw_cell_below HQ4.out p2, pw_cell_below HQ4.out p3, pw_cell_below HQ4.out p4⟩ (fun hHeld => ?_)
                clear hK K
                refine norm_ (a' := ?_) ?_ ?_
                rotate_left
                · show Act.put _ (some 72) _ = _
                  simp only [Act.put, List.setIfInBounds_toArray, List.set_cons_zero, List.set_cons_succ, i64_w, i32_w]
                  rfl
                refine pure_ (i := 6) (N := (some 73)) (v := ?_) (a' := ?_) #[true, true, true, true, true, true, true] rfl rfl (any_of HT_.out (by kernel_rfl)) (fun _ _ _ h => h) (Or.inl ⟨by rfl, ?_⟩) ?_ ?_
                rotate_left
                · intro w'
                  go_simp
                  with_reducible rfl
                rotate_left
                · simp only [Act.put, List.setIfInBounds_toArray, List.set_cons_zero, List.set_cons_succ, i64_w, i32_w]
                  rfl
                refine done_ (done_of HT_.out (by kernel_rfl)) ?_
                have hk31 := HLe.out
                go_wp2
                go_roundw
                case rel =>
                  exact ⟨k + 1, v9, by go_num, by rw [HA.out, HAE.out, lastS_snoc], by omega, ⟨by rw [HA.out, HAE.out]; exact HWz.out.below HQ4.out⟩, ⟨by rw [HA.out]; rw [HAE.out]; exact HCz.out.below HQ4.out⟩, ⟨HBz.out.trans (HQ4.out.mono HBz.out.size)⟩⟩
                case measure => simp [intOf]; omega
          | false =>
            have HM := Aside0.mk hm
            clear hm
            go_wp2_with fail
            have F7 := Aside0.mk (set5_fr W4 wr.heap.size (.int .i64 0) (.int .i64 0) (.string ⟨#[]⟩) (.slice none 0 0) (.int .u64 0))
            have B9 := Aside0.mk (set5_blk B4'.out (.int .i64 0) (.int .i64 0) (.string ⟨#[]⟩) (.slice none 0 0) (.int .u64 0))
            have HB7 := Aside0.mk (HB4.out.trans (F7.out.toBelow (B := w2.heap.size) HB4.out.size (fun j hj => by have hj' : j = _ := hj; have := HLw.out; omega)))
            have HC7 := Aside0.mk (HCr4.out.over F7.out (fun j _ hj => by have hj' : j = _ := hj; subst hj'; exact ⟨_, B4'.out⟩))
            have HW7 := Aside0.mk (own_fr HW4.out F7.out (fun j hj hs => HO4.out (by have hj' : j = _ := hs; rw [← hj']; exact hj)))
            obtain ⟨W7, e7⟩ : ∃ W7, W7 = set5 W4 wr.heap.size (.int .i64 0) (.int .i64 0) (.string ⟨#[]⟩) (.slice none 0 0) (.int .u64 0) := ⟨_, rfl⟩
            rw [← e7] at B9 HB7 HC7 HW7
            have e7' := e7.symm
            simp only [set5] at e7'
            rw [e7']
            have HAE : Aside0 (addE seed acc x.f0 x.f1 x.f2 x.f3 = ((⟨0, 0, ⟨#[]⟩, [], 0⟩ : S30), acc)) := ⟨by unfold addE; rw [if_neg (by rw [HM.out]; simp)]; rfl⟩
            clear e7 e7' F7 B4' HB4 HCr4 HW4 p0 p1 p2 p3 p4 ps f4
            go_wp2_with fail
            have HBs := Aside0.mk (below_drew HB7.out)
            have B9s := Aside0.mk (blk_drew B9.out)
            have HCs := Aside0.mk (HC7.out.below (below_drew (Below.refl _ _)))
            have HWs := Aside0.mk (HW7.out.below (below_drew (Below.refl _ _)))
            refine start_ (n := 24) (S := fun W => W.cell? (ad.add (k * 5)) = some (.int .i64 x.f0) ∧ W.cell? ⟨(ad.add (k * 5)).block, (ad.add (k * 5)).off + 1, none⟩ = some (.int .i64 x.f1) ∧ W.cell? ⟨(ad.add (k * 5)).block, (ad.add (k * 5)).off + 2, none⟩ = some (.string x.f2) ∧ W.cell? ⟨(ad.add (k * 5)).block, (ad.add (k * 5)).off + 3, none⟩ = some (.slice A3 x.f3.length c3)) (ds := []) #[false, false, false, false, false, false, false, false, false, false, false, false, false, false, false, false, false, false, false, false, false, false, false, false] (by kernel_rfl) rfl rfl ⟨pw_cell_below HBs.out g0, pw_cell_below HBs.out g1, pw_cell_below HBs.out g2, pw_cell_below HBs.out g3⟩ (fun hHeld => ?_)
            refine with_tabW reg3_20.tab reg3_20.bits (fun HT_ HW_ => ?_)
            refine pure_ (i := 0) (N := (some 45)) (v := ?_) (a' := ?_) #[true, false, false, false, false, false, false, false, false, false, false, false, false, false, false, false, false, false, false, false, false, false, false, false] rfl rfl (any_of HT_.out (by kernel_rfl)) (fun _ _ _ h => h) (Or.inl ⟨by rfl, ?_⟩) ?_ ?_
            rotate_left
            · intro w'
              go_simp
              with_reducible rfl
            rotate_left
            · simp only [Act.put, List.setIfInBounds_toArray, List.set_cons_zero, List.set_cons_succ, i64_w, i32_w]
              rfl
            refine pure_ (i := 1) (N := (some 46)) (v := ?_) (a' := ?_) #[true, true, false, false, false, false, false, false, false, false, false, false, false, false, false, false, false, false, false, false, false, false, false, false] rfl rfl (any_of HT_.out (by kernel_rfl)) (fun _ _ _ h => h) (Or.inl ⟨by rfl, ?_⟩) ?_ ?_
            rotate_left
            · intro w'
              go_simp
              with_reducible rfl
            rotate_left
            · simp only [Act.put, List.setIfInBounds_toArray, List.set_cons_zero, List.set_cons_succ, i64_w, i32_w]
              rfl
            refine pure_ (i := 2) (N := (some 47)) (v := ?_) (a' := ?_) #[true, true, true, false, false, false, false, false, false, false, false, false, false, false, false, false, false, false, false, false, false, false, false, false] rfl rfl (any_of HT_.out (by kernel_rfl)) (fun _ _ _ h => h) (Or.inl ⟨by rfl, ?_⟩) ?_ ?_
            rotate_left
            · intro w'
              go_simp
              with_reducible rfl
            rotate_left
            · simp only [Act.put, List.setIfInBounds_toArray, List.set_cons_zero, List.set_cons_succ, i64_w, i32_w]
              rfl
            refine pure_ (i := 3) (N := (some 48)) (v := ?_) (a' := ?_) #[true, true, true, true, false, false, false, false, false, false, false, false, false, false, false, false, false, false, false, false, false, false, false, false] rfl rfl (any_of HT_.out (by kernel_rfl)) (fun _ _ _ h => h) (Or.inl ⟨by rfl, ?_⟩) ?_ ?_
            rotate_left
            · intro w'
              go_simp
              with_reducible rfl
            rotate_left
            · simp only [Act.put, List.setIfInBounds_toArray, List.set_cons_zero, List.set_cons_succ, i64_w, i32_w]
              rfl
            refine pure_ (i := 4) (N := (some 49)) (v := ?_) (a' := ?_) #[true, true, true, true, true, false, false, false, false, false, false, false, false, false, false, false, false, false, false, false, false, false, false, false] rfl rfl (any_of HT_.out (by kernel_rfl)) (fun _ _ _ h => h) (Or.inl ⟨by rfl, ?_⟩) ?_ ?_
            rotate_left
            · intro w'
              go_simp
              with_reducible rfl
            rotate_left
            · simp only [Act.put, List.setIfInBounds_toArray, List.set_cons_zero, List.set_cons_succ, i64_w, i32_w]
              rfl
            refine pure_ (i := 6) (N := (some 51)) (v := ?_) (a' := ?_) #[true, true, true, true, true, false, true, false, false, false, false, false, false, false, false, false, false, false, false, false, false, false, false, false] rfl rfl (any_of HT_.out (by kernel_rfl)) (fun _ _ _ h => h) (Or.inl ⟨by rfl, ?_⟩) ?_ ?_
            rotate_left
            · intro w'
              go_simp
              with_reducible rfl
            rotate_left
            · simp only [Act.put, List.setIfInBounds_toArray, List.set_cons_zero, List.set_cons_succ, i64_w, i32_w]
              rfl
            refine pure_ (i := 7) (N := (some 52)) (v := ?_) (a' := ?_) #[true, true, true, true, true, false, true, true, false, false, false, false, false, false, false, false, false, false, false, false, false, false, false, false] rfl rfl (any_of HT_.out (by kernel_rfl)) (fun _ _ _ h => h) (Or.inl ⟨by rfl, ?_⟩) ?_ ?_
            rotate_left
            · intro w'
              go_simp
              with_reducible rfl
            rotate_left
            · simp only [Act.put, List.setIfInBounds_toArray, List.set_cons_zero, List.set_cons_succ, i64_w, i32_w]
              rfl
            refine pure_ (i := 8) (N := (some 53)) (v := ?_) (a' := ?_) #[true, true, true, true, true, false, true, true, true, false, false, false, false, false, false, false, false, false, false, false, false, false, false, false] rfl rfl (any_of HT_.out (by kernel_rfl)) (fun _ _ _ h => h) (Or.inl ⟨by rfl, ?_⟩) ?_ ?_
            rotate_left
            · intro w'
              go_simp
              with_reducible rfl
            rotate_left
            · simp only [Act.put, List.setIfInBounds_toArray, List.set_cons_zero, List.set_cons_succ, i64_w, i32_w]
              rfl
            refine pure_ (i := 9) (N := (some 54)) (v := ?_) (a' := ?_) #[true, true, true, true, true, false, true, true, true, true, false, false, false, false, false, false, false, false, false, false, false, false, false, false] rfl rfl (any_of HT_.out (by kernel_rfl)) (fun _ _ _ h => h) (Or.inl ⟨by rfl, ?_⟩) ?_ ?_
            rotate_left
            · intro w'
              go_simp
              with_reducible rfl
            rotate_left
            · simp only [Act.put, List.setIfInBounds_toArray, List.set_cons_zero, List.set_cons_succ, i64_w, i32_w]
              rfl
            refine pure_ (i := 11) (N := (some 56)) (v := ?_) (a' := ?_) #[true, true, true, true, true, false, true, true, true, true, false, true, false, false, false, false, false, false, false, false, false, false, false, false] rfl rfl (any_of HT_.out (by kernel_rfl)) (fun _ _ _ h => h) (Or.inl ⟨by rfl, ?_⟩) ?_ ?_
            rotate_left
            · intro w'
              go_simp
              with_reducible rfl
            rotate_left
            · simp only [Act.put, List.setIfInBounds_toArray, List.set_cons_zero, List.set_cons_succ, i64_w, i32_w]
              rfl
            refine pure_ (i := 12) (N := (some 57)) (v := ?_) (a' := ?_) #[true, true, true, true, true, false, true, true, true, true, false, true, true, false, false, false, false, false, false, false, false, false, false, false] rfl rfl (any_of HT_.out (by kernel_rfl)) (fun _ _ _ h => h) (Or.inl ⟨by rfl, ?_⟩) ?_ ?_
            rotate_left
            · intro w'
              go_simp
              with_reducible rfl
            rotate_left
            · simp only [Act.put, List.setIfInBounds_toArray, List.set_cons_zero, List.set_cons_succ, i64_w, i32_w]
              rfl
            refine pure_ (i := 13) (N := (some 58)) (v := ?_) (a' := ?_) #[true, true, true, true, true, false, true, true, true, true, false, true, true, true, false, false, false, false, false, false, false, false, false, false] rfl rfl (any_of HT_.out (by kernel_rfl)) (fun _ _ _ h => h) (Or.inl ⟨by rfl, ?_⟩) ?_ ?_
            rotate_left
            · intro w'
              go_simp
              with_reducible rfl
            rotate_left
            · simp only [Act.put, List.setIfInBounds_toArray, List.set_cons_zero, List.set_cons_succ, i64_w, i32_w]
              rfl
            refine pure_ (i := 14) (N := (some 59)) (v := ?_) (a' := ?_) #[true, true, true, true, true, false, true, true, true, true, false, true, true, true, true, false, false, false, false, false, false, false, false, false] rfl rfl (any_of HT_.out (by kernel_rfl)) (fun _ _ _ h => h) (Or.inl ⟨by rfl, ?_⟩) ?_ ?_
            rotate_left
            · intro w'
              go_simp
              with_reducible rfl
            rotate_left
            · simp only [Act.put, List.setIfInBounds_toArray, List.set_cons_zero, List.set_cons_succ, i64_w, i32_w]
              rfl
            refine pure_ (i := 16) (N := (some 61)) (v := ?_) (a' := ?_) #[true, true, true, true, true, false, true, true, true, true, false, true, true, true, true, false, true, false, false, false, false, false, false, false] rfl rfl (any_of HT_.out (by kernel_rfl)) (fun _ _ _ h => h) (Or.inl ⟨by rfl, ?_⟩) ?_ ?_
            rotate_left
            · intro w'
              go_simp
              with_reducible rfl
            rotate_left
            · simp only [Act.put, List.setIfInBounds_toArray, List.set_cons_zero, List.set_cons_succ, i64_w, i32_w]
              rfl
            refine pure_ (i := 17) (N := (some 62)) (v := ?_) (a' := ?_) #[true, true, true, true, true, false, true, true, true, true, false, true, true, true, true, false, true, true, false, false, false, false, false, false] rfl rfl (any_of HT_.out (by kernel_rfl)) (fun _ _ _ h => h) (Or.inl ⟨by rfl, ?_⟩) ?_ ?_
            rotate_left
            · intro w'
              go_simp
              with_reducible rfl
            rotate_left
            · simp only [Act.put, List.setIfInBounds_toArray, List.set_cons_zero, List.set_cons_succ, i64_w, i32_w]
              rfl
            refine pure_ (i := 18) (N := (some 63)) (v := ?_) (a' := ?_) #[true, true, true, true, true, false, true, true, true, true, false, true, true, true, true, false, true, true, true, false, false, false, false, false] rfl rfl (any_of HT_.out (by kernel_rfl)) (fun _ _ _ h => h) (Or.inl ⟨by rfl, ?_⟩) ?_ ?_
            rotate_left
            · intro w'
              go_simp
              with_reducible rfl
            rotate_left
            · simp only [Act.put, List.setIfInBounds_toArray, List.set_cons_zero, List.set_cons_succ, i64_w, i32_w]
              rfl
            refine pure_ (i := 19) (N := (some 64)) (v := ?_) (a' := ?_) #[true, true, true, true, true, false, true, true, true, true, false, true, true, true, true, false, true, true, true, true, false, false, false, false] rfl rfl (any_of HT_.out (by kernel_rfl)) (fun _ _ _ h => h) (Or.inl ⟨by rfl, ?_⟩) ?_ ?_
            rotate_left
            · intro w'
              go_simp
              with_reducible rfl
            rotate_left
            · simp only [Act.put, List.setIfInBounds_toArray, List.set_cons_zero, List.set_cons_succ, i64_w, i32_w]
              rfl
            refine take_ (i := 5) (N := (some 50)) (v := ?_) (a' := ?_) #[true, true, true, true, true, true, true, true, true, true, false, true, true, true, true, false, true, true, true, true, false, false, false, false] rfl rfl (take_ofW HT_.out HW_.out (by kernel_rfl)) (fun _ _ _ h => h) (Or.inl ⟨by rfl, ?_⟩) hHeld ?_ ?_
            rotate_left
            · rintro w' ⟨s0, s1, s2, s3⟩
              go_simp
              with_reducible rfl
            rotate_left
            · simp only [Act.put, List.setIfInBounds_toArray, List.set_cons_zero, List.set_cons_succ, i64_w, i32_w]
              rfl
            refine take_ (i := 10) (N := (some 55)) (v := ?_) (a' := ?_) #[true, true, true, true, true, true, true, true, true, true, true, true, true, true, true, false, true, true, true, true, false, false, false, false] rfl rfl (take_ofW HT_.out HW_.out (by kernel_rfl)) (fun _ _ _ h => h) (Or.inl ⟨by rfl, ?_⟩) hHeld ?_ ?_
            rotate_left
            · rintro w' ⟨s0, s1, s2, s3⟩
              go_simp
              with_reducible rfl
            rotate_left
            · simp only [Act.put, List.setIfInBounds_toArray, List.set_cons_zero, List.set_cons_succ, i64_w, i32_w]
              rfl
            refine take_ (i := 15) (N := (some 60)) (v := ?_) (a' := ?_) #[true, true, true, true, true, true, true, true, true, true, true, true, true, true, true, true, true, true, true, true, false, false, false, false] rfl rfl (take_ofW HT_.out HW_.out (by kernel_rfl)) (fun _ _ _ h => h) (Or.inl ⟨by rfl, ?_⟩) hHeld ?_ ?_
            rotate_left
            · rintro w' ⟨s0, s1, s2, s3⟩
              go_simp
              with_reducible rfl
            rotate_left
            · simp only [Act.put, List.setIfInBounds_toArray, List.set_cons_zero, List.set_cons_succ, i64_w, i32_w]
              rfl
            refine take_ (i := 20) (N := (some 65)) (v := ?_) (a' := ?_) #[true, true, true, true, true, true, true, true, true, true, true, true, true, true, true, true, true, true, true, true, true, false, false, false] rfl rfl (take_ofW HT_.out HW_.out (by kernel_rfl)) (fun _ _ _ h => h) (Or.inl ⟨by rfl, ?_⟩) hHeld ?_ ?_
            rotate_left
            · rintro w' ⟨s0, s1, s2, s3⟩
              go_simp
              with_reducible rfl
            rotate_left
            · simp only [Act.put, List.setIfInBounds_toArray, List.set_cons_zero, List.set_cons_succ, i64_w, i32_w]
              rfl
            refine two_ (i := 21) (j := 22) (Ni := (some 66)) (Nj := (some 10)) #[true, true, true, true, true, true, true, true, true, true, true, true, true, true, true, true, true, true, true, true, true, true, false, false] #[true, true, true, true, true, true, true, true, true, true, true, true, true, true, true, true, true, true, true, true, true, false, true, false] rfl rfl rfl rfl (two_of HT_.out (by kernel_rfl)) (by decide) (by decide) (fun K hK => ?_) (fun K hK => ?_)
            · refine goes_ Tryd.func12 (by kernel_rfl) rfl #[.pointer (some ⟨w2.heap.size, 0, none⟩), .int .i64 x.f0, .int .i64 x.f1, .string x.f2, .slice A3 x.f3.length c3] (by rfl) rfl rfl (by (try simp only [List.map_toArray, List.map_cons, List.map_nil]); first | done | rfl) ?_
              refine (add_calls w2.heap.size v seed acc x.f0 x.f1 x.f2 A3 c3 x.f3 W7.drew HCs.out (Kd.C_below HC3.out HBs.out) (HT2.out.below HBs.out) (by have := HXS.out.2.1; omega) (by have := HAL.out; omega) (fun s hs => by have := HXS.out.2.2 s hs; omega) (by have := HXS.out.1; omega) (fun j hj => by have h1 := blk_lt HCs.out.blk; show j ≠ _; omega) HBs.out.size).mono ?_
              rintro e W8 ⟨⟨v8, rfl, hR8⟩, hF8, v9, hC9, hat9⟩
              rw [HAE.out] at hR8 hC9
              change Kd.string.R 9 W8 _ any v8 ([] : List ByteArray) at hR8
              obtain ⟨A8, c8, rfl⟩ := Kd.R_slice hR8
              refine ⟨.agg #[.int .i64 0, .int .i64 0, .string ⟨#[]⟩, .slice A8 0 c8, .int .u64 0], by rw [HAE.out]; rfl, ?_⟩
              have HBa := Aside0.mk (HBs.out.trans (hF8.toBelow (B := w2.heap.size) HBs.out.size (fun j hj => (HCs.out.ch_lt j hj).2)))
              have B9a := Aside0.mk (hF8.blk B9s.out (fun hj => by have := HV4.out _ hj; omega))
              have HWa := Aside0.mk (own_fr HWs.out hF8 (fun j hj hs => by obtain ⟨cl, t, ht, hc⟩ := HCs.out.own_typed j hs; obtain ⟨cl', hc'⟩ := own_row_typed HWs.out j hj; rw [hc] at hc'; rcases ht with rfl | rfl <;> cases hc'))
              have HCa := Aside0.mk hC9
              have HR8 := Aside0.mk hR8
              clear hF8 hC9 hat9 hR8
              refine hK.out _ _ ⟨pw_cell_below HBa.out g0, pw_cell_below HBa.out g1, pw_cell_below HBa.out g2, pw_cell_below HBa.out g3⟩ (fun hHeld => ?_)
              clear hK K
              refine norm_ (a' := ?_) ?_ ?_
              rotate_left
              · show Act.put _ (some 66) _ = _
                simp only [Act.put, List.setIfInBounds_toArray, List.set_cons_zero, List.set_cons_succ, i64_w, i32_w]
                rfl
              refine one_ (i := 22) (N := (some 10)) #[true, true, true, true, true, true, true, true, true, true, true, true, true, true, true, true, true, true, true, true, true, true, true, false] rfl rfl (one_of HT_.out (by kernel_rfl)) (by decide) (fun K hK => ?_)
              refine event_step (v := .pointer (some ⟨W8.heap.size, 0, none⟩)) (w1 := (W8.alloc (.cells #[.int .i64 0, .int .i64 0, .string ⟨#[]⟩, .slice none 0 0, .int .u64 0] 33))) (by rfl) (by first | (go_simp; done) | (go_simp; rfl)) ?_
              have HBr := Aside0.mk (below_alloc HBa.out (.cells #[.int .i64 0, .int .i64 0, .string ⟨#[]⟩, .slice none 0 0, .int .u64 0] 33))
              have B9r := Aside0.mk (blk_alloc B9a.out (.cells #[.int .i64 0, .int .i64 0, .string ⟨#[]⟩, .slice none 0 0, .int .u64 0] 33))
              have HCr := Aside0.mk (HCa.out.below (below_alloc (Below.refl _ _) (.cells #[.int .i64 0, .int .i64 0, .string ⟨#[]⟩, .slice none 0 0, .int .u64 0] 33)))
              have HWr := Aside0.mk (HWa.out.below (below_alloc (Below.refl _ _) (.cells #[.int .i64 0, .int .i64 0, .string ⟨#[]⟩, .slice none 0 0, .int .u64 0] 33)))
              have B10r : Aside0 ((W8.alloc (.cells #[.int .i64 0, .int .i64 0, .string ⟨#[]⟩, .slice none 0 0, .int .u64 0] 33)).heap[W8.heap.size]? = some (.cells #[.int .i64 0, .int .i64 0, .string ⟨#[]⟩, .slice none 0 0, .int .u64 0] 33)) := ⟨heap_alloc_new W8 _⟩
              refine hK.out _ _ ⟨pw_cell_below HBr.out g0, pw_cell_below HBr.out g1, pw_cell_below HBr.out g2, pw_cell_below HBr.out g3⟩ (fun hHeld => ?_)
              clear hK K
              refine norm_ (a' := ?_) ?_ ?_
              rotate_left
              · show Act.put _ (some 10) _ = _
                simp only [Act.put, List.setIfInBounds_toArray, List.set_cons_zero, List.set_cons_succ, i64_w, i32_w]
                rfl
              refine one_ (i := 23) (N := none) #[true, true, true, true, true, true, true, true, true, true, true, true, true, true, true, true, true, true, true, true, true, true, true, true] rfl rfl (one_of HT_.out (by kernel_rfl)) (by decide) (fun K hK => ?_)
              refine skip_ (w1 := (W8.alloc (.cells #[.int .i64 0, .int .i64 0, .string ⟨#[]⟩, .slice A8 0 c8, .int .u64 0] 33))) (by rfl) rfl (by first | (go_simp; done) | (go_simp; rfl)) ?_
              have HBz := Aside0.mk (below_alloc HBa.out (.cells #[.int .i64 0, .int .i64 0, .string ⟨#[]⟩, .slice A8 0 c8, .int .u64 0] 33))
              have B9z := Aside0.mk (blk_alloc B9a.out (.cells #[.int .i64 0, .int .i64 0, .string ⟨#[]⟩, .slice A8 0 c8, .int .u64 0] 33))
              have HCz := Aside0.mk (HCa.out.below (below_alloc (Below.refl _ _) (.cells #[.int .i64 0, .int .i64 0, .string ⟨#[]⟩, .slice A8 0 c8, .int .u64 0] 33)))
              have HWz := Aside0.mk (HWa.out.below (below_alloc (Below.refl _ _) (.cells #[.int .i64 0, .int .i64 0, .string ⟨#[]⟩, .slice A8 0 c8, .int .u64 0] 33)))
              have B10z := Aside0.mk (heap_alloc_new W8 (.cells #[.int .i64 0, .int .i64 0, .string ⟨#[]⟩, .slice A8 0 c8, .int .u64 0] 33))
              have HR8z := Aside0.mk (Kd.R_alloc HR8.out (.cells #[.int .i64 0, .int .i64 0, .string ⟨#[]⟩, .slice A8 0 c8, .int .u64 0] 33))
              obtain ⟨Wz, ez⟩ : ∃ Wz, Wz = (W8.alloc (.cells #[.int .i64 0, .int .i64 0, .string ⟨#[]⟩, .slice A8 0 c8, .int .u64 0] 33)) := ⟨_, rfl⟩
              have ez' := ez.symm
              obtain ⟨A8', c8', e8, hl8, hC8⟩ := Kd.R_reads HR8z.out
              obtain ⟨rfl, rfl⟩ : A8 = A8' ∧ c8 = c8' := by cases e8; exact ⟨rfl, rfl⟩
              rw [← ez] at HBz B9z HCz HWz B10z hC8
              have HC8 := Aside0.mk hC8
              have HL8 := Aside0.mk hl8
              clear hC8 hl8 e8 HR8z
              rw [ez']
              clear ez ez'
              refine hK.out _ _ ⟨pw_cell_below HBz.out g0, pw_cell_below HBz.out g1, pw_cell_below HBz.out g2, pw_cell_below HBz.out g3⟩ (fun hHeld => ?_)
              clear hK K
              refine done_ (done_of HT_.out (by kernel_rfl)) ?_
              obtain ⟨q0, q1, q2, q3, q4, qs⟩ := five B10z.out
              obtain ⟨p0, p1, p2, p3, p4, ps⟩ := five B9z.out
              have HQ0 := Aside0.mk (below_drew (Below.refl Wz.heap.size Wz))
              have HY := Aside0.mk (Kd.C_nil Kd.string Wz)
              have HYL : Aside0 (0 ≤ 0) := ⟨Nat.le_refl _⟩
              go_wp2_with fail
              refine start_ (n := 7) (S := fun W => W.cell? ⟨W8.heap.size, 0, none⟩ = some (.int .i64 0) ∧ W.cell? ⟨W8.heap.size, 1, none⟩ = some (.int .i64 0) ∧ W.cell? ⟨W8.heap.size, 2, none⟩ = some (.string ⟨#[]⟩) ∧ W.cell? ⟨W8.heap.size, 3, none⟩ = some (.slice A8 0 c8) ∧ W.cell? ⟨W8.heap.size, 4, none⟩ = some (.int .u64 0) ∧ W.cell? ⟨wr.heap.size, 0, none⟩ = some (.int .i64 0) ∧ W.cell? ⟨wr.heap.size, 1, none⟩ = some (.int .i64 0) ∧ W.cell? ⟨wr.heap.size, 2, none⟩ = some (.string ⟨#[]⟩) ∧ W.cell? ⟨wr.heap.size, 3, none⟩ = some (.slice none 0 0) ∧ W.cell? ⟨wr.heap.size, 4, none⟩ = some (.int .u64 0)) (ds := []) #[false, false, false, false, false, false, false] (by kernel_rfl) rfl rfl ⟨pw_cell_below HQ0.out q0, pw_cell_below HQ0.out q1, pw_cell_below HQ0.out q2, pw_cell_below HQ0.out q3, pw_cell_below HQ0.out q4, pw_cell_below HQ0.out p0, pw_cell_below HQ0.out p1, pw_cell_below HQ0.out p2, pw_cell_below HQ0.out p3, pw_cell_below HQ0.out p4⟩ (fun hHeld => ?_)
              refine with_tabW reg3_21.tab reg3_21.bits (fun HT_ HW_ => ?_)
              refine take_ (i := 0) (N := (some 67)) (v := ?_) (a' := ?_) #[true, false, false, false, false, false, false] rfl rfl (take_ofW HT_.out HW_.out (by kernel_rfl)) (fun _ _ _ h => h) (Or.inl ⟨by rfl, ?_⟩) hHeld ?_ ?_
              rotate_left
              · rintro w' ⟨s0, s1, s2, s3, s4, t0, t1, t2, t3, t4⟩
                go_simp
                with_reducible rfl
              rotate_left
              · simp only [Act.put, List.setIfInBounds_toArray, List.set_cons_zero, List.set_cons_succ, i64_w, i32_w]
                rfl
              refine take_ (i := 3) (N := (some 70)) (v := ?_) (a' := ?_) #[true, false, false, true, false, false, false] rfl rfl (take_ofW HT_.out HW_.out (by kernel_rfl)) (fun _ _ _ h => h) (Or.inl ⟨by rfl, ?_⟩) hHeld ?_ ?_
              rotate_left
              · rintro w' ⟨s0, s1, s2, s3, s4, t0, t1, t2, t3, t4⟩
                go_simp
                with_reducible rfl
              rotate_left
              · simp only [Act.put, List.setIfInBounds_toArray, List.set_cons_zero, List.set_cons_succ, i64_w, i32_w]
                rfl
              refine two_ (i := 1) (j := 4) (Ni := (some 68)) (Nj := (some 71)) #[true, true, false, true, false, false, false] #[true, false, false, true, true, false, false] rfl rfl rfl rfl (two_of HT_.out (by kernel_rfl)) (by decide) (by decide) (fun K hK => ?_) (fun K hK => ?_)
              · refine event_step (v := .slice (some ⟨Wz.drew.heap.size, 0, none⟩) 1 1) (w1 := (Wz.drew.alloc (.cells #[.int .i64 0, .int .i64 0, .string ⟨#[]⟩, .slice A8 0 c8, .int .u64 0] 33))) (by rfl) (by first | (go_simp; done) | (go_simp; rfl)) ?_
                have HQ1 := Aside0.mk (below_alloc HQ0.out (.cells #[.int .i64 0, .int .i64 0, .string ⟨#[]⟩, .slice A8 0 c8, .int .u64 0] 33))
                have c37_1 := Aside0.mk (ent_one (heap_alloc_new Wz.drew (.cells #[.int .i64 0, .int .i64 0, .string ⟨#[]⟩, .slice A8 0 c8, .int .u64 0] 33)) (k30_mk _ (⟨0, 0, ⟨#[]⟩, [], 0⟩ : S30) HL8.out (Kd.C_below HC8.out HQ1.out)))
                refine hK.out _ _ ⟨pw_cell_below HQ1.out q0, pw_cell_below HQ1.out q1, pw_cell_below HQ1.out q2, pw_cell_below HQ1.out q3, pw_cell_below HQ1.out q4, pw_cell_below HQ1.out p0, pw_cell_below HQ1.out p1, pw_cell_below HQ1.out p2, pw_cell_below HQ1.out p3, pw_cell_below HQ1.out p4⟩ (fun hHeld => ?_)
                clear hK K
                refine norm_ (a' := ?_) ?_ ?_
                rotate_left
                · show Act.put _ (some 68) _ = _
                  simp only [Act.put, List.setIfInBounds_toArray, List.set_cons_zero, List.set_cons_succ, i64_w, i32_w]
                  rfl
                refine two_ (i := 2) (j := 4) (Ni := (some 69)) (Nj := (some 71)) #[true, true, true, true, false, false, false] #[true, true, false, true, true, false, false] rfl rfl rfl rfl (two_of HT_.out (by kernel_rfl)) (by decide) (by decide) (fun K hK => ?_) (fun K hK => ?_)
                · refine goes_ Tryd.func14 (by kernel_rfl) rfl #[.slice (some ⟨Wz.drew.heap.size, 0, none⟩) 1 1] (by rfl) rfl rfl (by (try simp only [List.map_toArray, List.map_cons, List.map_nil]); first | done | rfl) ?_
                  refine (told_calls (some ⟨Wz.drew.heap.size, 0, none⟩) 1 [(⟨0, 0, ⟨#[]⟩, [], 0⟩ : S30)] _ c37_1.out (by simp)).mono ?_
                  rintro e V2 ⟨A9, c9, rfl, hc9, hC, hb⟩
                  refine ⟨_, rfl, ?_⟩
                  have HQ2 := Aside0.mk (HQ1.out.trans (hb.mono HQ1.out.size))
                  have c37_2 := Aside0.mk (Kd.C_below c37_1.out hb)
                  have ct_2 := Aside0.mk hC
                  clear hb hC
                  refine hK.out _ _ ⟨pw_cell_below HQ2.out q0, pw_cell_below HQ2.out q1, pw_cell_below HQ2.out q2, pw_cell_below HQ2.out q3, pw_cell_below HQ2.out q4, pw_cell_below HQ2.out p0, pw_cell_below HQ2.out p1, pw_cell_below HQ2.out p2, pw_cell_below HQ2.out p3, pw_cell_below HQ2.out p4⟩ (fun hHeld => ?_)
                  clear hK K
                  refine norm_ (a' := ?_) ?_ ?_
                  rotate_left
                  · show Act.put _ (some 69) _ = _
                    simp only [Act.put, List.setIfInBounds_toArray, List.set_cons_zero, List.set_cons_succ, i64_w, i32_w]
                    rfl
                  refine one_ (i := 4) (N := (some 71)) #[true, true, true, true, true, false, false] rfl rfl (one_of HT_.out (by kernel_rfl)) (by decide) (fun K hK => ?_)
                  refine event_step (v := .slice (some ⟨V2.heap.size, 0, none⟩) 1 1) (w1 := (V2.alloc (.cells #[.int .i64 0, .int .i64 0, .string ⟨#[]⟩, .slice none 0 0, .int .u64 0] 30))) (by rfl) (by first | (go_simp; done) | (go_simp; rfl)) ?_
                  have HQ3 := Aside0.mk (below_alloc HQ2.out (.cells #[.int .i64 0, .int .i64 0, .string ⟨#[]⟩, .slice none 0 0, .int .u64 0] 30))
                  have c37_3 := Aside0.mk (Kd.C_below c37_2.out (below_alloc (Below.refl _ _) (.cells #[.int .i64 0, .int .i64 0, .string ⟨#[]⟩, .slice none 0 0, .int .u64 0] 30)))
                  have ct_3 := Aside0.mk (Kd.C_below ct_2.out (below_alloc (Below.refl _ _) (.cells #[.int .i64 0, .int .i64 0, .string ⟨#[]⟩, .slice none 0 0, .int .u64 0] 30)))
                  have c23_3 := Aside0.mk (ent_one (heap_alloc_new V2 (.cells #[.int .i64 0, .int .i64 0, .string ⟨#[]⟩, .slice none 0 0, .int .u64 0] 30)) (k30_mk _ (⟨0, 0, ⟨#[]⟩, [], 0⟩ : S30) HYL.out (Kd.C_below HY.out HQ3.out)))
                  refine hK.out _ _ ⟨pw_cell_below HQ3.out q0, pw_cell_below HQ3.out q1, pw_cell_below HQ3.out q2, pw_cell_below HQ3.out q3, pw_cell_below HQ3.out q4, pw_cell_below HQ3.out p0, pw_cell_below HQ3.out p1, pw_cell_below HQ3.out p2, pw_cell_below HQ3.out p3, pw_cell_below HQ3.out p4⟩ (fun hHeld => ?_)
                  clear hK K
                  refine norm_ (a' := ?_) ?_ ?_
                  rotate_left
                  · show Act.put _ (some 71) _ = _
                    simp only [Act.put, List.setIfInBounds_toArray, List.set_cons_zero, List.set_cons_succ, i64_w, i32_w]
                    rfl
                  refine one_ (i := 5) (N := (some 72)) #[true, true, true, true, true, true, false] rfl rfl (one_of HT_.out (by kernel_rfl)) (by decide) (fun K hK => ?_)
                  refine goes_ Tryd.func13 (by kernel_rfl) rfl #[.slice A9 1 c9, .slice (some ⟨V2.heap.size, 0, none⟩) 1 1] (by rfl) rfl rfl (by (try simp only [List.map_toArray, List.map_cons, List.map_nil]); first | done | rfl) ?_
                  refine (same_calls A9 c9 (some ⟨V2.heap.size, 0, none⟩) 1 [(⟨0, 0, ⟨#[]⟩, [], 0⟩ : S30)] _ ct_3.out c23_3.out (by intro z hz; obtain rfl := List.mem_singleton.1 hz; decide)).mono ?_
                  rintro e V4 ⟨rfl, hb⟩
                  refine ⟨_, rfl, ?_⟩
                  have HQ4 := Aside0.mk (HQ3.out.trans (hb.mono HQ3.out.size))
                  clear hb
                  refine hK.out _ _ ⟨pw_cell_below HQ4.out q0, pw_cell_below HQ4.out q1, pw_cell_below HQ4.out q2, pw_cell_below HQ4.out q3, pw_cell_below HQ4.out q4, pw_cell_below HQ4.out p0, pw_cell_below HQ4.out p1, pw_cell_below HQ4.out p2, pw_cell_below HQ4.out p3, pw_cell_below HQ4.out p4⟩ (fun hHeld => ?_)
                  clear hK K
                  refine norm_ (a' := ?_) ?_ ?_
                  rotate_left
                  · show Act.put _ (some 72) _ = _
                    simp only [Act.put, List.setIfInBounds_toArray, List.set_cons_zero, List.set_cons_succ, i64_w, i32_w]
                    rfl
                  refine pure_ (i := 6) (N := (some 73)) (v := ?_) (a' := ?_) #[true, true, true, true, true, true, true] rfl rfl (any_of HT_.out (by kernel_rfl)) (fun _ _ _ h => h) (Or.inl ⟨by rfl, ?_⟩) ?_ ?_
                  rotate_left
                  · intro w'
                    go_simp
                    with_reducible rfl
                  rotate_left
                  · simp only [Act.put, List.setIfInBounds_toArray, List.set_cons_zero, List.set_cons_succ, i64_w, i32_w]
                    rfl
                  refine done_ (done_of HT_.out (by kernel_rfl)) ?_
                  have hk31 := HLe.out
                  go_wp2
                  go_roundw
                  case rel =>
                    exact ⟨k + 1, v9, by go_num, by rw [HA.out, HAE.out], by omega, ⟨by rw [HA.out, HAE.out]; exact HWz.out.below HQ4.out⟩, ⟨by rw [HA.out]; rw [HAE.out]; exact HCz.out.below HQ4.out⟩, ⟨HBz.out.trans (HQ4.out.mono HBz.out.size)⟩⟩
                  case measure => simp [intOf]; omega
                · refine event_step (v := .slice (some ⟨(Wz.drew.alloc (.cells #[.int .i64 0, .int .i64 0, .string ⟨#[]⟩, .slice A8 0 c8, .int .u64 0] 33)).heap.size, 0, none⟩) 1 1) (w1 := ((Wz.drew.alloc (.cells #[.int .i64 0, .int .i64 0, .string ⟨#[]⟩, .slice A8 0 c8, .int .u64 0] 33)).alloc (.cells #[.int .i64 0, .int .i64 0, .string ⟨#[]⟩, .slice none 0 0, .int .u64 0] 30))) (by rfl) (by first | (go_simp; done) | (go_simp; rfl)) ?_
                  have HQ2 := Aside0.mk (below_alloc HQ1.out (.cells #[.int .i64 0, .int .i64 0, .string ⟨#[]⟩, .slice none 0 0, .int .u64 0] 30))
                  have c37_2 := Aside0.mk (Kd.C_below c37_1.out (below_alloc (Below.refl _ _) (.cells #[.int .i64 0, .int .i64 0, .string ⟨#[]⟩, .slice none 0 0, .int .u64 0] 30)))
                  have c23_2 := Aside0.mk (ent_one (heap_alloc_new (Wz.drew.alloc (.cells #[.int .i64 0, .int .i64 0, .string ⟨#[]⟩, .slice A8 0 c8, .int .u64 0] 33)) (.cells #[.int .i64 0, .int .i64 0, .string ⟨#[]⟩, .slice none 0 0, .int .u64 0] 30)) (k30_mk _ (⟨0, 0, ⟨#[]⟩, [], 0⟩ : S30) HYL.out (Kd.C_below HY.out HQ2.out)))
                  refine hK.out _ _ ⟨pw_cell_below HQ2.out q0, pw_cell_below HQ2.out q1, pw_cell_below HQ2.out q2, pw_cell_below HQ2.out q3, pw_cell_below HQ2.out q4, pw_cell_below HQ2.out p0, pw_cell_below HQ2.out p1, pw_cell_below HQ2.out p2, pw_cell_below HQ2.out p3, pw_cell_below HQ2.out p4⟩ (fun hHeld => ?_)
                  clear hK K
                  refine norm_ (a' := ?_) ?_ ?_
                  rotate_left
                  · show Act.put _ (some 71) _ = _
                    simp only [Act.put, List.setIfInBounds_toArray, List.set_cons_zero, List.set_cons_succ, i64_w, i32_w]
                    rfl
                  refine one_ (i := 2) (N := (some 69)) #[true, true, true, true, true, false, false] rfl rfl (one_of HT_.out (by kernel_rfl)) (by decide) (fun K hK => ?_)
                  refine goes_ Tryd.func14 (by kernel_rfl) rfl #[.slice (some ⟨Wz.drew.heap.size, 0, none⟩) 1 1] (by rfl) rfl rfl (by (try simp only [List.map_toArray, List.map_cons, List.map_nil]); first | done | rfl) ?_
                  refine (told_calls (some ⟨Wz.drew.heap.size, 0, none⟩) 1 [(⟨0, 0, ⟨#[]⟩, [], 0⟩ : S30)] _ c37_2.out (by simp)).mono ?_
                  rintro e V3 ⟨A9, c9, rfl, hc9, hC, hb⟩
                  refine ⟨_, rfl, ?_⟩
                  have HQ3 := Aside0.mk (HQ2.out.trans (hb.mono HQ2.out.size))
                  have c37_3 := Aside0.mk (Kd.C_below c37_2.out hb)
                  have c23_3 := Aside0.mk (Kd.C_below c23_2.out hb)
                  have ct_3 := Aside0.mk hC
                  clear hb hC
                  refine hK.out _ _ ⟨pw_cell_below HQ3.out q0, pw_cell_below HQ3.out q1, pw_cell_below HQ3.out q2, pw_cell_below HQ3.out q3, pw_cell_below HQ3.out q4, pw_cell_below HQ3.out p0, pw_cell_below HQ3.out p1, pw_cell_below HQ3.out p2, pw_cell_below HQ3.out p3, pw_cell_below HQ3.out p4⟩ (fun hHeld => ?_)
                  clear hK K
                  refine norm_ (a' := ?_) ?_ ?_
                  rotate_left
                  · show Act.put _ (some 69) _ = _
                    simp only [Act.put, List.setIfInBounds_toArray, List.set_cons_zero, List.set_cons_succ, i64_w, i32_w]
                    rfl
                  refine one_ (i := 5) (N := (some 72)) #[true, true, true, true, true, true, false] rfl rfl (one_of HT_.out (by kernel_rfl)) (by decide) (fun K hK => ?_)
                  refine goes_ Tryd.func13 (by kernel_rfl) rfl #[.slice A9 1 c9, .slice (some ⟨(Wz.drew.alloc (.cells #[.int .i64 0, .int .i64 0, .string ⟨#[]⟩, .slice A8 0 c8, .int .u64 0] 33)).heap.size, 0, none⟩) 1 1] (by rfl) rfl rfl (by (try simp only [List.map_toArray, List.map_cons, List.map_nil]); first | done | rfl) ?_
                  refine (same_calls A9 c9 (some ⟨(Wz.drew.alloc (.cells #[.int .i64 0, .int .i64 0, .string ⟨#[]⟩, .slice A8 0 c8, .int .u64 0] 33)).heap.size, 0, none⟩) 1 [(⟨0, 0, ⟨#[]⟩, [], 0⟩ : S30)] _ ct_3.out c23_3.out (by intro z hz; obtain rfl := List.mem_singleton.1 hz; decide)).mono ?_
                  rintro e V4 ⟨rfl, hb⟩
                  refine ⟨_, rfl, ?_⟩
                  have HQ4 := Aside0.mk (HQ3.out.trans (hb.mono HQ3.out.size))
                  clear hb
                  refine hK.out _ _ ⟨pw_cell_below HQ4.out q0, pw_cell_below HQ4.out q1, pw_cell_below HQ4.out q2, pw_cell_below HQ4.out q3, pw_cell_below HQ4.out q4, pw_cell_below HQ4.out p0, pw_cell_below HQ4.out p1, pw_cell_below HQ4.out p2, pw_cell_below HQ4.out p3, pw_cell_below HQ4.out p4⟩ (fun hHeld => ?_)
                  clear hK K
                  refine norm_ (a' := ?_) ?_ ?_
                  rotate_left
                  · show Act.put _ (some 72) _ = _
                    simp only [Act.put, List.setIfInBounds_toArray, List.set_cons_zero, List.set_cons_succ, i64_w, i32_w]
                    rfl
                  refine pure_ (i := 6) (N := (some 73)) (v := ?_) (a' := ?_) #[true, true, true, true, true, true, true] rfl rfl (any_of HT_.out (by kernel_rfl)) (fun _ _ _ h => h) (Or.inl ⟨by rfl, ?_⟩) ?_ ?_
                  rotate_left
                  · intro w'
                    go_simp
                    with_reducible rfl
                  rotate_left
                  · simp only [Act.put, List.setIfInBounds_toArray, List.set_cons_zero, List.set_cons_succ, i64_w, i32_w]
                    rfl
                  refine done_ (done_of HT_.out (by kernel_rfl)) ?_
                  have hk31 := HLe.out
                  go_wp2
                  go_roundw
                  case rel =>
                    exact ⟨k + 1, v9, by go_num, by rw [HA.out, HAE.out], by omega, ⟨by rw [HA.out, HAE.out]; exact HWz.out.below HQ4.out⟩, ⟨by rw [HA.out]; rw [HAE.out]; exact HCz.out.below HQ4.out⟩, ⟨HBz.out.trans (HQ4.out.mono HBz.out.size)⟩⟩
                  case measure => simp [intOf]; omega
              · refine event_step (v := .slice (some ⟨Wz.drew.heap.size, 0, none⟩) 1 1) (w1 := (Wz.drew.alloc (.cells #[.int .i64 0, .int .i64 0, .string ⟨#[]⟩, .slice none 0 0, .int .u64 0] 30))) (by rfl) (by first | (go_simp; done) | (go_simp; rfl)) ?_
                have HQ1 := Aside0.mk (below_alloc HQ0.out (.cells #[.int .i64 0, .int .i64 0, .string ⟨#[]⟩, .slice none 0 0, .int .u64 0] 30))
                have c23_1 := Aside0.mk (ent_one (heap_alloc_new Wz.drew (.cells #[.int .i64 0, .int .i64 0, .string ⟨#[]⟩, .slice none 0 0, .int .u64 0] 30)) (k30_mk _ (⟨0, 0, ⟨#[]⟩, [], 0⟩ : S30) HYL.out (Kd.C_below HY.out HQ1.out)))
                refine hK.out _ _ ⟨pw_cell_below HQ1.out q0, pw_cell_below HQ1.out q1, pw_cell_below HQ1.out q2, pw_cell_below HQ1.out q3, pw_cell_below HQ1.out q4, pw_cell_below HQ1.out p0, pw_cell_below HQ1.out p1, pw_cell_below HQ1.out p2, pw_cell_below HQ1.out p3, pw_cell_below HQ1.out p4⟩ (fun hHeld => ?_)
                clear hK K
                refine norm_ (a' := ?_) ?_ ?_
                rotate_left
                · show Act.put _ (some 71) _ = _
                  simp only [Act.put, List.setIfInBounds_toArray, List.set_cons_zero, List.set_cons_succ, i64_w, i32_w]
                  rfl
                refine one_ (i := 1) (N := (some 68)) #[true, true, false, true, true, false, false] rfl rfl (one_of HT_.out (by kernel_rfl)) (by decide) (fun K hK => ?_)
                refine event_step (v := .slice (some ⟨(Wz.drew.alloc (.cells #[.int .i64 0, .int .i64 0, .string ⟨#[]⟩, .slice none 0 0, .int .u64 0] 30)).heap.size, 0, none⟩) 1 1) (w1 := ((Wz.drew.alloc (.cells #[.int .i64 0, .int .i64 0, .string ⟨#[]⟩, .slice none 0 0, .int .u64 0] 30)).alloc (.cells #[.int .i64 0, .int .i64 0, .string ⟨#[]⟩, .slice A8 0 c8, .int .u64 0] 33))) (by rfl) (by first | (go_simp; done) | (go_simp; rfl)) ?_
                have HQ2 := Aside0.mk (below_alloc HQ1.out (.cells #[.int .i64 0, .int .i64 0, .string ⟨#[]⟩, .slice A8 0 c8, .int .u64 0] 33))
                have c23_2 := Aside0.mk (Kd.C_below c23_1.out (below_alloc (Below.refl _ _) (.cells #[.int .i64 0, .int .i64 0, .string ⟨#[]⟩, .slice A8 0 c8, .int .u64 0] 33)))
                have c37_2 := Aside0.mk (ent_one (heap_alloc_new (Wz.drew.alloc (.cells #[.int .i64 0, .int .i64 0, .string ⟨#[]⟩, .slice none 0 0, .int .u64 0] 30)) (.cells #[.int .i64 0, .int .i64 0, .string ⟨#[]⟩, .slice A8 0 c8, .int .u64 0] 33)) (k30_mk _ (⟨0, 0, ⟨#[]⟩, [], 0⟩ : S30) HL8.out (Kd.C_below HC8.out HQ2.out)))
                refine hK.out _ _ ⟨pw_cell_below HQ2.out q0, pw_cell_below HQ2.out q1, pw_cell_below HQ2.out q2, pw_cell_below HQ2.out q3, pw_cell_below HQ2.out q4, pw_cell_below HQ2.out p0, pw_cell_below HQ2.out p1, pw_cell_below HQ2.out p2, pw_cell_below HQ2.out p3, pw_cell_below HQ2.out p4⟩ (fun hHeld => ?_)
                clear hK K
                refine norm_ (a' := ?_) ?_ ?_
                rotate_left
                · show Act.put _ (some 68) _ = _
                  simp only [Act.put, List.setIfInBounds_toArray, List.set_cons_zero, List.set_cons_succ, i64_w, i32_w]
                  rfl
                refine one_ (i := 2) (N := (some 69)) #[true, true, true, true, true, false, false] rfl rfl (one_of HT_.out (by kernel_rfl)) (by decide) (fun K hK => ?_)
                refine goes_ Tryd.func14 (by kernel_rfl) rfl #[.slice (some ⟨(Wz.drew.alloc (.cells #[.int .i64 0, .int .i64 0, .string ⟨#[]⟩, .slice none 0 0, .int .u64 0] 30)).heap.size, 0, none⟩) 1 1] (by rfl) rfl rfl (by (try simp only [List.map_toArray, List.map_cons, List.map_nil]); first | done | rfl) ?_
                refine (told_calls (some ⟨(Wz.drew.alloc (.cells #[.int .i64 0, .int .i64 0, .string ⟨#[]⟩, .slice none 0 0, .int .u64 0] 30)).heap.size, 0, none⟩) 1 [(⟨0, 0, ⟨#[]⟩, [], 0⟩ : S30)] _ c37_2.out (by simp)).mono ?_
                rintro e V3 ⟨A9, c9, rfl, hc9, hC, hb⟩
                refine ⟨_, rfl, ?_⟩
                have HQ3 := Aside0.mk (HQ2.out.trans (hb.mono HQ2.out.size))
                have c37_3 := Aside0.mk (Kd.C_below c37_2.out hb)
                have c23_3 := Aside0.mk (Kd.C_below c23_2.out hb)
                have ct_3 := Aside0.mk hC
                clear hb hC
                refine hK.out _ _ ⟨pw_cell_below HQ3.out q0, pw_cell_below HQ3.out q1, pw_cell_below HQ3.out q2, pw_cell_below HQ3.out q3, pw_cell_below HQ3.out q4, pw_cell_below HQ3.out p0, pw_cell_below HQ3.out p1, pw_cell_below HQ3.out p2, pw_cell_below HQ3.out p3, pw_cell_below HQ3.out p4⟩ (fun hHeld => ?_)
                clear hK K
                refine norm_ (a' := ?_) ?_ ?_
                rotate_left
                · show Act.put _ (some 69) _ = _
                  simp only [Act.put, List.setIfInBounds_toArray, List.set_cons_zero, List.set_cons_succ, i64_w, i32_w]
                  rfl
                refine one_ (i := 5) (N := (some 72)) #[true, true, true, true, true, true, false] rfl rfl (one_of HT_.out (by kernel_rfl)) (by decide) (fun K hK => ?_)
                refine goes_ Tryd.func13 (by kernel_rfl) rfl #[.slice A9 1 c9, .slice (some ⟨Wz.drew.heap.size, 0, none⟩) 1 1] (by rfl) rfl rfl (by (try simp only [List.map_toArray, List.map_cons, List.map_nil]); first | done | rfl) ?_
                refine (same_calls A9 c9 (some ⟨Wz.drew.heap.size, 0, none⟩) 1 [(⟨0, 0, ⟨#[]⟩, [], 0⟩ : S30)] _ ct_3.out c23_3.out (by intro z hz; obtain rfl := List.mem_singleton.1 hz; decide)).mono ?_
                rintro e V4 ⟨rfl, hb⟩
                refine ⟨_, rfl, ?_⟩
                have HQ4 := Aside0.mk (HQ3.out.trans (hb.mono HQ3.out.size))
                clear hb
                refine hK.out _ _ ⟨pw_cell_below HQ4.out q0, pw_cell_below HQ4.out q1, pw_cell_below HQ4.out q2, pw_cell_below HQ4.out q3, pw_cell_below HQ4.out q4, pw_cell_below HQ4.out p0, pw_cell_below HQ4.out p1, pw_cell_below HQ4.out p2, pw_cell_below HQ4.out p3, pw_cell_below HQ4.out p4⟩ (fun hHeld => ?_)
                clear hK K
                refine norm_ (a' := ?_) ?_ ?_
                rotate_left
                · show Act.put _ (some 72) _ = _
                  simp only [Act.put, List.setIfInBounds_toArray, List.set_cons_zero, List.set_cons_succ, i64_w, i32_w]
                  rfl
                refine pure_ (i := 6) (N := (some 73)) (v := ?_) (a' := ?_) #[true, true, true, true, true, true, true] rfl rfl (any_of HT_.out (by kernel_rfl)) (fun _ _ _ h => h) (Or.inl ⟨by rfl, ?_⟩) ?_ ?_
                rotate_left
                · intro w'
                  go_simp
                  with_reducible rfl
                rotate_left
                · simp only [Act.put, List.setIfInBounds_toArray, List.set_cons_zero, List.set_cons_succ, i64_w, i32_w]
                  rfl
                refine done_ (done_of HT_.out (by kernel_rfl)) ?_
                have hk31 := HLe.out
                go_wp2
                go_roundw
                case rel =>
                  exact ⟨k + 1, v9, by go_num, by rw [HA.out, HAE.out], by omega, ⟨by rw [HA.out, HAE.out]; exact HWz.out.below HQ4.out⟩, ⟨by rw [HA.out]; rw [HAE.out]; exact HCz.out.below HQ4.out⟩, ⟨HBz.out.trans (HQ4.out.mono HBz.out.size)⟩⟩
                case measure => simp [intOf]; omega
            · refine event_step (v := .pointer (some ⟨W7.heap.size, 0, none⟩)) (w1 := (W7.drew.alloc (.cells #[.int .i64 0, .int .i64 0, .string ⟨#[]⟩, .slice none 0 0, .int .u64 0] 33))) (by rfl) (by first | (go_simp; done) | (go_simp; rfl)) ?_
              have HBq := Aside0.mk (below_alloc HBs.out (.cells #[.int .i64 0, .int .i64 0, .string ⟨#[]⟩, .slice none 0 0, .int .u64 0] 33))
              have B9q := Aside0.mk (blk_alloc B9s.out (.cells #[.int .i64 0, .int .i64 0, .string ⟨#[]⟩, .slice none 0 0, .int .u64 0] 33))
              have HCq := Aside0.mk ((HCs.out.elder W7.heap.size (Nat.le_refl _)).below (below_alloc (Below.refl _ _) (.cells #[.int .i64 0, .int .i64 0, .string ⟨#[]⟩, .slice none 0 0, .int .u64 0] 33)))
              have HWq := Aside0.mk (HWs.out.below (below_alloc (Below.refl _ _) (.cells #[.int .i64 0, .int .i64 0, .string ⟨#[]⟩, .slice none 0 0, .int .u64 0] 33)))
              have B10q : Aside0 ((W7.drew.alloc (.cells #[.int .i64 0, .int .i64 0, .string ⟨#[]⟩, .slice none 0 0, .int .u64 0] 33)).heap[W7.heap.size]? = some (.cells #[.int .i64 0, .int .i64 0, .string ⟨#[]⟩, .slice none 0 0, .int .u64 0] 33)) := ⟨heap_alloc_new W7.drew _⟩
              refine hK.out _ _ ⟨pw_cell_below HBq.out g0, pw_cell_below HBq.out g1, pw_cell_below HBq.out g2, pw_cell_below HBq.out g3⟩ (fun hHeld => ?_)
              clear hK K
              refine norm_ (a' := ?_) ?_ ?_
              rotate_left
              · show Act.put _ (some 10) _ = _
                simp only [Act.put, List.setIfInBounds_toArray, List.set_cons_zero, List.set_cons_succ, i64_w, i32_w]
                rfl
              refine one_ (i := 21) (N := (some 66)) #[true, true, true, true, true, true, true, true, true, true, true, true, true, true, true, true, true, true, true, true, true, true, true, false] rfl rfl (one_of HT_.out (by kernel_rfl)) (by decide) (fun K hK => ?_)
              refine goes_ Tryd.func12 (by kernel_rfl) rfl #[.pointer (some ⟨w2.heap.size, 0, none⟩), .int .i64 x.f0, .int .i64 x.f1, .string x.f2, .slice A3 x.f3.length c3] (by rfl) rfl rfl (by (try simp only [List.map_toArray, List.map_cons, List.map_nil]); first | done | rfl) ?_
              refine (add_calls w2.heap.size v seed acc x.f0 x.f1 x.f2 A3 c3 x.f3 (W7.drew.alloc (.cells #[.int .i64 0, .int .i64 0, .string ⟨#[]⟩, .slice none 0 0, .int .u64 0] 33)) HCq.out (Kd.C_below HC3.out HBq.out) (HT2.out.below HBq.out) (by have := HXS.out.2.1; omega) (by have := HAL.out; omega) (fun s hs => by have := HXS.out.2.2 s hs; omega) (by have := HXS.out.1; omega) (fun j hj => by have h1 := blk_lt HCq.out.blk; have h2 := blk_lt B10q.out; have h3 : W7.drew.heap.size = W7.heap.size := rfl; refine ⟨?_, ?_⟩ <;> (try show j ≠ _) <;> omega) HBq.out.size).mono ?_
              rintro e W8 ⟨⟨v8, rfl, hR8⟩, hF8, v9, hC9, hat9⟩
              rw [HAE.out] at hR8 hC9
              change Kd.string.R 9 W8 _ any v8 ([] : List ByteArray) at hR8
              obtain ⟨A8, c8, rfl⟩ := Kd.R_slice hR8
              refine ⟨.agg #[.int .i64 0, .int .i64 0, .string ⟨#[]⟩, .slice A8 0 c8, .int .u64 0], by rw [HAE.out]; rfl, ?_⟩
              have HBa := Aside0.mk (HBq.out.trans (hF8.toBelow (B := w2.heap.size) HBq.out.size (fun j hj => (HCq.out.ch_lt j hj).2)))
              have B9a := Aside0.mk (hF8.blk B9q.out (fun hj => by have := HV4.out _ hj; omega))
              have HWa := Aside0.mk (own_fr HWq.out hF8 (fun j hj hs => by obtain ⟨cl, t, ht, hc⟩ := HCq.out.own_typed j hs; obtain ⟨cl', hc'⟩ := own_row_typed HWq.out j hj; rw [hc] at hc'; rcases ht with rfl | rfl <;> cases hc'))
              have HCa := Aside0.mk hC9
              have HR8 := Aside0.mk hR8
              have B10a := Aside0.mk (hF8.blk B10q.out (fun hj => by have := HV4.out _ hj; have h2 := blk_lt B9s.out; have h3 : W7.drew.heap.size = W7.heap.size := rfl; omega))
              clear hF8 hC9 hat9 hR8
              refine hK.out _ _ ⟨pw_cell_below HBa.out g0, pw_cell_below HBa.out g1, pw_cell_below HBa.out g2, pw_cell_below HBa.out g3⟩ (fun hHeld => ?_)
              clear hK K
              refine norm_ (a' := ?_) ?_ ?_
              rotate_left
              · show Act.put _ (some 66) _ = _
                simp only [Act.put, List.setIfInBounds_toArray, List.set_cons_zero, List.set_cons_succ, i64_w, i32_w]
                rfl
              refine one_ (i := 23) (N := none) #[true, true, true, true, true, true, true, true, true, true, true, true, true, true, true, true, true, true, true, true, true, true, true, true] rfl rfl (one_of HT_.out (by kernel_rfl)) (by decide) (fun K hK => ?_)
              obtain ⟨q0, q1, q2, q3, q4, qs⟩ := five B10a.out
              have fq := blk_frozen B10a.out
              refine skip_ (w1 := set5 W8 W7.heap.size (.int .i64 0) (.int .i64 0) (.string ⟨#[]⟩) (.slice A8 0 c8) (.int .u64 0)) (by rfl) rfl (by first | (go_simp; done) | (go_simp; rfl)) ?_
              clear q0 q1 q2 q3 q4 qs fq
              have Fz := Aside0.mk (set5_fr W8 W7.heap.size (.int .i64 0) (.int .i64 0) (.string ⟨#[]⟩) (.slice A8 0 c8) (.int .u64 0))
              have B10z := Aside0.mk (set5_blk B10a.out (.int .i64 0) (.int .i64 0) (.string ⟨#[]⟩) (.slice A8 0 c8) (.int .u64 0))
              have hbn : w2.heap.size < W7.heap.size ∧ wr.heap.size < W7.heap.size := by have h1 := HLw.out; have h3 := blk_lt B9s.out; have h4 : W7.drew.heap.size = W7.heap.size := rfl; have h5 := blk_lt B9a.out; omega
              have HBz := Aside0.mk (HBa.out.trans (Fz.out.toBelow (B := w2.heap.size) HBa.out.size (fun j hj => by have hj' : j = _ := hj; have := hbn.1; omega)))
              have B9z := Aside0.mk (Fz.out.blk B9a.out (fun hj => by have hj' : wr.heap.size = _ := hj; have := hbn.2; omega))
              have HCz := Aside0.mk ((HCa.out.fr Fz.out (fun hj => by have hj' : w2.heap.size = _ := hj; have := hbn.1; omega) (fun j _ _ ho hj => ho.2 hj)).mono (fun _ hk => hk.1) (fun h => h rfl))
              have HR8z := Aside0.mk (R_fr HR8.out Fz.out (fun j h1 _ _ hj => by have h2 := blk_lt B10q.out; have hj' : j = _ := hj; have h3 : W7.drew.heap.size = W7.heap.size := rfl; omega))
              have HWz := Aside0.mk (own_fr HWa.out Fz.out (fun j hj hj2 => by have hj' : j = _ := hj2; subst hj'; obtain ⟨cl, hc⟩ := own_row_typed HWa.out _ hj; rw [B10a.out] at hc; cases hc))
              obtain ⟨Wz, ez⟩ : ∃ Wz, Wz = set5 W8 W7.heap.size (.int .i64 0) (.int .i64 0) (.string ⟨#[]⟩) (.slice A8 0 c8) (.int .u64 0) := ⟨_, rfl⟩
              have ez' := ez.symm
              obtain ⟨A8', c8', e8, hl8, hC8⟩ := Kd.R_reads HR8z.out
              obtain ⟨rfl, rfl⟩ : A8 = A8' ∧ c8 = c8' := by cases e8; exact ⟨rfl, rfl⟩
              rw [← ez] at HBz B9z HCz HWz B10z hC8
              have HC8 := Aside0.mk hC8
              have HL8 := Aside0.mk hl8
              clear hC8 hl8 e8 HR8z
              rw [ez']
              clear ez ez'
              refine hK.out _ _ ⟨pw_cell_below HBz.out g0, pw_cell_below HBz.out g1, pw_cell_below HBz.out g2, pw_cell_below HBz.out g3⟩ (fun hHeld => ?_)
              clear hK K
              refine done_ (done_of HT_.out (by kernel_rfl)) ?_
              obtain ⟨q0, q1, q2, q3, q4, qs⟩ := five B10z.out
              obtain ⟨p0, p1, p2, p3, p4, ps⟩ := five B9z.out
              have HQ0 := Aside0.mk (below_drew (Below.refl Wz.heap.size Wz))
              have HY := Aside0.mk (Kd.C_nil Kd.string Wz)
              have HYL : Aside0 (0 ≤ 0) := ⟨Nat.le_refl _⟩
              go_wp2_with fail
              refine start_ (n := 7) (S := fun W => W.cell? ⟨W7.heap.size, 0, none⟩ = some (.int .i64 0) ∧ W.cell? ⟨W7.heap.size, 1, none⟩ = some (.int .i64 0) ∧ W.cell? ⟨W7.heap.size, 2, none⟩ = some (.string ⟨#[]⟩) ∧ W.cell? ⟨W7.heap.size, 3, none⟩ = some (.slice A8 0 c8) ∧ W.cell? ⟨W7.heap.size, 4, none⟩ = some (.int .u64 0) ∧ W.cell? ⟨wr.heap.size, 0, none⟩ = some (.int .i64 0) ∧ W.cell? ⟨wr.heap.size, 1, none⟩ = some (.int .i64 0) ∧ W.cell? ⟨wr.heap.size, 2, none⟩ = some (.string ⟨#[]⟩) ∧ W.cell? ⟨wr.heap.size, 3, none⟩ = some (.slice none 0 0) ∧ W.cell? ⟨wr.heap.size, 4, none⟩ = some (.int .u64 0)) (ds := []) #[false, false, false, false, false, false, false] (by kernel_rfl) rfl rfl ⟨pw_cell_below HQ0.out q0, pw_cell_below HQ0.out q1, pw_cell_below HQ0.out q2, pw_cell_below HQ0.out q3, pw_cell_below HQ0.out q4, pw_cell_below HQ0.out p0, pw_cell_below HQ0.out p1, pw_cell_below HQ0.out p2, pw_cell_below HQ0.out p3, pw_cell_below HQ0.out p4⟩ (fun hHeld => ?_)
              refine with_tabW reg3_21.tab reg3_21.bits (fun HT_ HW_ => ?_)
              refine take_ (i := 0) (N := (some 67)) (v := ?_) (a' := ?_) #[true, false, false, false, false, false, false] rfl rfl (take_ofW HT_.out HW_.out (by kernel_rfl)) (fun _ _ _ h => h) (Or.inl ⟨by rfl, ?_⟩) hHeld ?_ ?_
              rotate_left
              · rintro w' ⟨s0, s1, s2, s3, s4, t0, t1, t2, t3, t4⟩
                go_simp
                with_reducible rfl
              rotate_left
              · simp only [Act.put, List.setIfInBounds_toArray, List.set_cons_zero, List.set_cons_succ, i64_w, i32_w]
                rfl
              refine take_ (i := 3) (N := (some 70)) (v := ?_) (a' := ?_) #[true, false, false, true, false, false, false] rfl rfl (take_ofW HT_.out HW_.out (by kernel_rfl)) (fun _ _ _ h => h) (Or.inl ⟨by rfl, ?_⟩) hHeld ?_ ?_
              rotate_left
              · rintro w' ⟨s0, s1, s2, s3, s4, t0, t1, t2, t3, t4⟩
                go_simp
                with_reducible rfl
              rotate_left
              · simp only [Act.put, List.setIfInBounds_toArray, List.set_cons_zero, List.set_cons_succ, i64_w, i32_w]
                rfl
              refine two_ (i := 1) (j := 4) (Ni := (some 68)) (Nj := (some 71)) #[true, true, false, true, false, false, false] #[true, false, false, true, true, false, false] rfl rfl rfl rfl (two_of HT_.out (by kernel_rfl)) (by decide) (by decide) (fun K hK => ?_) (fun K hK => ?_)
              · refine event_step (v := .slice (some ⟨Wz.drew.heap.size, 0, none⟩) 1 1) (w1 := (Wz.drew.alloc (.cells #[.int .i64 0, .int .i64 0, .string ⟨#[]⟩, .slice A8 0 c8, .int .u64 0] 33))) (by rfl) (by first | (go_simp; done) | (go_simp; rfl)) ?_
                have HQ1 := Aside0.mk (below_alloc HQ0.out (.cells #[.int .i64 0, .int .i64 0, .string ⟨#[]⟩, .slice A8 0 c8, .int .u64 0] 33))
                have c37_1 := Aside0.mk (ent_one (heap_alloc_new Wz.drew (.cells #[.int .i64 0, .int .i64 0, .string ⟨#[]⟩, .slice A8 0 c8, .int .u64 0] 33)) (k30_mk _ (⟨0, 0, ⟨#[]⟩, [], 0⟩ : S30) HL8.out (Kd.C_below HC8.out HQ1.out)))
                refine hK.out _ _ ⟨pw_cell_below HQ1.out q0, pw_cell_below HQ1.out q1, pw_cell_below HQ1.out q2, pw_cell_below HQ1.out q3, pw_cell_below HQ1.out q4, pw_cell_below HQ1.out p0, pw_cell_below HQ1.out p1, pw_cell_below HQ1.out p2, pw_cell_below HQ1.out p3, pw_cell_below HQ1.out p4⟩ (fun hHeld => ?_)
                clear hK K
                refine norm_ (a' := ?_) ?_ ?_
                rotate_left
                · show Act.put _ (some 68) _ = _
                  simp only [Act.put, List.setIfInBounds_toArray, List.set_cons_zero, List.set_cons_succ, i64_w, i32_w]
                  rfl
                refine two_ (i := 2) (j := 4) (Ni := (some 69)) (Nj := (some 71)) #[true, true, true, true, false, false, false] #[true, true, false, true, true, false, false] rfl rfl rfl rfl (two_of HT_.out (by kernel_rfl)) (by decide) (by decide) (fun K hK => ?_) (fun K hK => ?_)
                · refine goes_ Tryd.func14 (by kernel_rfl) rfl #[.slice (some ⟨Wz.drew.heap.size, 0, none⟩) 1 1] (by rfl) rfl rfl (by (try simp only [List.map_toArray, List.map_cons, List.map_nil]); first | done | rfl) ?_
                  refine (told_calls (some ⟨Wz.drew.heap.size, 0, none⟩) 1 [(⟨0, 0, ⟨#[]⟩, [], 0⟩ : S30)] _ c37_1.out (by simp)).mono ?_
                  rintro e V2 ⟨A9, c9, rfl, hc9, hC, hb⟩
                  refine ⟨_, rfl, ?_⟩
                  have HQ2 := Aside0.mk (HQ1.out.trans (hb.mono HQ1.out.size))
                  have c37_2 := Aside0.mk (Kd.C_below c37_1.out hb)
                  have ct_2 := Aside0.mk hC
                  clear hb hC
                  refine hK.out _ _ ⟨pw_cell_below HQ2.out q0, pw_cell_below HQ2.out q1, pw_cell_below HQ2.out q2, pw_cell_below HQ2.out q3, pw_cell_below HQ2.out q4, pw_cell_below HQ2.out p0, pw_cell_below HQ2.out p1, pw_cell_below HQ2.out p2, pw_cell_below HQ2.out p3, pw_cell_below HQ2.out p4⟩ (fun hHeld => ?_)
                  clear hK K
                  refine norm_ (a' := ?_) ?_ ?_
                  rotate_left
                  · show Act.put _ (some 69) _ = _
                    simp only [Act.put, List.setIfInBounds_toArray, List.set_cons_zero, List.set_cons_succ, i64_w, i32_w]
                    rfl
                  refine one_ (i := 4) (N := (some 71)) #[true, true, true, true, true, false, false] rfl rfl (one_of HT_.out (by kernel_rfl)) (by decide) (fun K hK => ?_)
                  refine event_step (v := .slice (some ⟨V2.heap.size, 0, none⟩) 1 1) (w1 := (V2.alloc (.cells #[.int .i64 0, .int .i64 0, .string ⟨#[]⟩, .slice none 0 0, .int .u64 0] 30))) (by rfl) (by first | (go_simp; done) | (go_simp; rfl)) ?_
                  have HQ3 := Aside0.mk (below_alloc HQ2.out (.cells #[.int .i64 0, .int .i64 0, .string ⟨#[]⟩, .slice none 0 0, .int .u64 0] 30))
                  have c37_3 := Aside0.mk (Kd.C_below c37_2.out (below_alloc (Below.refl _ _) (.cells #[.int .i64 0, .int .i64 0, .string ⟨#[]⟩, .slice none 0 0, .int .u64 0] 30)))
                  have ct_3 := Aside0.mk (Kd.C_below ct_2.out (below_alloc (Below.refl _ _) (.cells #[.int .i64 0, .int .i64 0, .string ⟨#[]⟩, .slice none 0 0, .int .u64 0] 30)))
                  have c23_3 := Aside0.mk (ent_one (heap_alloc_new V2 (.cells #[.int .i64 0, .int .i64 0, .string ⟨#[]⟩, .slice none 0 0, .int .u64 0] 30)) (k30_mk _ (⟨0, 0, ⟨#[]⟩, [], 0⟩ : S30) HYL.out (Kd.C_below HY.out HQ3.out)))
                  refine hK.out _ _ ⟨pw_cell_below HQ3.out q0, pw_cell_below HQ3.out q1, pw_cell_below HQ3.out q2, pw_cell_below HQ3.out q3, pw_cell_below HQ3.out q4, pw_cell_below HQ3.out p0, pw_cell_below HQ3.out p1, pw_cell_below HQ3.out p2, pw_cell_below HQ3.out p3, pw_cell_below HQ3.out p4⟩ (fun hHeld => ?_)
                  clear hK K
                  refine norm_ (a' := ?_) ?_ ?_
                  rotate_left
                  · show Act.put _ (some 71) _ = _
                    simp only [Act.put, List.setIfInBounds_toArray, List.set_cons_zero, List.set_cons_succ, i64_w, i32_w]
                    rfl
                  refine one_ (i := 5) (N := (some 72)) #[true, true, true, true, true, true, false] rfl rfl (one_of HT_.out (by kernel_rfl)) (by decide) (fun K hK => ?_)
                  refine goes_ Tryd.func13 (by kernel_rfl) rfl #[.slice A9 1 c9, .slice (some ⟨V2.heap.size, 0, none⟩) 1 1] (by rfl) rfl rfl (by (try simp only [List.map_toArray, List.map_cons, List.map_nil]); first | done | rfl) ?_
                  refine (same_calls A9 c9 (some ⟨V2.heap.size, 0, none⟩) 1 [(⟨0, 0, ⟨#[]⟩, [], 0⟩ : S30)] _ ct_3.out c23_3.out (by intro z hz; obtain rfl := List.mem_singleton.1 hz; decide)).mono ?_
                  rintro e V4 ⟨rfl, hb⟩
                  refine ⟨_, rfl, ?_⟩
                  have HQ4 := Aside0.mk (HQ3.out.trans (hb.mono HQ3.out.size))
                  clear hb
                  refine hK.out _ _ ⟨pw_cell_below HQ4.out q0, pw_cell_below HQ4.out q1, pw_cell_below HQ4.out q2, pw_cell_below HQ4.out q3, pw_cell_below HQ4.out q4, pw_cell_below HQ4.out p0, pw_cell_below HQ4.out p1, pw_cell_below HQ4.out p2, pw_cell_below HQ4.out p3, pw_cell_below HQ4.out p4⟩ (fun hHeld => ?_)
                  clear hK K
                  refine norm_ (a' := ?_) ?_ ?_
                  rotate_left
                  · show Act.put _ (some 72) _ = _
                    simp only [Act.put, List.setIfInBounds_toArray, List.set_cons_zero, List.set_cons_succ, i64_w, i32_w]
                    rfl
                  refine pure_ (i := 6) (N := (some 73)) (v := ?_) (a' := ?_) #[true, true, true, true, true, true, true] rfl rfl (any_of HT_.out (by kernel_rfl)) (fun _ _ _ h => h) (Or.inl ⟨by rfl, ?_⟩) ?_ ?_
                  rotate_left
                  · intro w'
                    go_simp
                    with_reducible rfl
                  rotate_left
                  · simp only [Act.put, List.setIfInBounds_toArray, List.set_cons_zero, List.set_cons_succ, i64_w, i32_w]
                    rfl
                  refine done_ (done_of HT_.out (by kernel_rfl)) ?_
                  have hk31 := HLe.out
                  go_wp2
                  go_roundw
                  case rel =>
                    exact ⟨k + 1, v9, by go_num, by rw [HA.out, HAE.out], by omega, ⟨by rw [HA.out, HAE.out]; exact HWz.out.below HQ4.out⟩, ⟨by rw [HA.out]; rw [HAE.out]; exact HCz.out.below HQ4.out⟩, ⟨HBz.out.trans (HQ4.out.mono HBz.out.size)⟩⟩
                  case measure => simp [intOf]; omega
                · refine event_step (v := .slice (some ⟨(Wz.drew.alloc (.cells #[.int .i64 0, .int .i64 0, .string ⟨#[]⟩, .slice A8 0 c8, .int .u64 0] 33)).heap.size, 0, none⟩) 1 1) (w1 := ((Wz.drew.alloc (.cells #[.int .i64 0, .int .i64 0, .string ⟨#[]⟩, .slice A8 0 c8, .int .u64 0] 33)).alloc (.cells #[.int .i64 0, .int .i64 0, .string ⟨#[]⟩, .slice none 0 0, .int .u64 0] 30))) (by rfl) (by first | (go_simp; done) | (go_simp; rfl)) ?_
                  have HQ2 := Aside0.mk (below_alloc HQ1.out (.cells #[.int .i64 0, .int .i64 0, .string ⟨#[]⟩, .slice none 0 0, .int .u64 0] 30))
                  have c37_2 := Aside0.mk (Kd.C_below c37_1.out (below_alloc (Below.refl _ _) (.cells #[.int .i64 0, .int .i64 0, .string ⟨#[]⟩, .slice none 0 0, .int .u64 0] 30)))
                  have c23_2 := Aside0.mk (ent_one (heap_alloc_new (Wz.drew.alloc (.cells #[.int .i64 0, .int .i64 0, .string ⟨#[]⟩, .slice A8 0 c8, .int .u64 0] 33)) (.cells #[.int .i64 0, .int .i64 0, .string ⟨#[]⟩, .slice none 0 0, .int .u64 0] 30)) (k30_mk _ (⟨0, 0, ⟨#[]⟩, [], 0⟩ : S30) HYL.out (Kd.C_below HY.out HQ2.out)))
                  refine hK.out _ _ ⟨pw_cell_below HQ2.out q0, pw_cell_below HQ2.out q1, pw_cell_below HQ2.out q2, pw_cell_below HQ2.out q3, pw_cell_below HQ2.out q4, pw_cell_below HQ2.out p0, pw_cell_below HQ2.out p1, pw_cell_below HQ2.out p2, pw_cell_below HQ2.out p3, pw_cell_below HQ2.out p4⟩ (fun hHeld => ?_)
                  clear hK K
                  refine norm_ (a' := ?_) ?_ ?_
                  rotate_left
                  · show Act.put _ (some 71) _ = _
                    simp only [Act.put, List.setIfInBounds_toArray, List.set_cons_zero, List.set_cons_succ, i64_w, i32_w]
                    rfl
                  refine one_ (i := 2) (N := (some 69)) #[true, true, true, true, true, false, false] rfl rfl (one_of HT_.out (by kernel_rfl)) (by decide) (fun K hK => ?_)
                  refine goes_ Tryd.func14 (by kernel_rfl) rfl #[.slice (some ⟨Wz.drew.heap.size, 0, none⟩) 1 1] (by rfl) rfl rfl (by (try simp only [List.map_toArray, List.map_cons, List.map_nil]); first | done | rfl) ?_
                  refine (told_calls (some ⟨Wz.drew.heap.size, 0, none⟩) 1 [(⟨0, 0, ⟨#[]⟩, [], 0⟩ : S30)] _ c37_2.out (by simp)).mono ?_
                  rintro e V3 ⟨A9, c9, rfl, hc9, hC, hb⟩
                  refine ⟨_, rfl, ?_⟩
                  have HQ3 := Aside0.mk (HQ2.out.trans (hb.mono HQ2.out.size))
                  have c37_3 := Aside0.mk (Kd.C_below c37_2.out hb)
                  have c23_3 := Aside0.mk (Kd.C_below c23_2.out hb)
                  have ct_3 := Aside0.mk hC
                  clear hb hC
                  refine hK.out _ _ ⟨pw_cell_below HQ3.out q0, pw_cell_below HQ3.out q1, pw_cell_below HQ3.out q2, pw_cell_below HQ3.out q3, pw_cell_below HQ3.out q4, pw_cell_below HQ3.out p0, pw_cell_below HQ3.out p1, pw_cell_below HQ3.out p2, pw_cell_below HQ3.out p3, pw_cell_below HQ3.out p4⟩ (fun hHeld => ?_)
                  clear hK K
                  refine norm_ (a' := ?_) ?_ ?_
                  rotate_left
                  · show Act.put _ (some 69) _ = _
                    simp only [Act.put, List.setIfInBounds_toArray, List.set_cons_zero, List.set_cons_succ, i64_w, i32_w]
                    rfl
                  refine one_ (i := 5) (N := (some 72)) #[true, true, true, true, true, true, false] rfl rfl (one_of HT_.out (by kernel_rfl)) (by decide) (fun K hK => ?_)
                  refine goes_ Tryd.func13 (by kernel_rfl) rfl #[.slice A9 1 c9, .slice (some ⟨(Wz.drew.alloc (.cells #[.int .i64 0, .int .i64 0, .string ⟨#[]⟩, .slice A8 0 c8, .int .u64 0] 33)).heap.size, 0, none⟩) 1 1] (by rfl) rfl rfl (by (try simp only [List.map_toArray, List.map_cons, List.map_nil]); first | done | rfl) ?_
                  refine (same_calls A9 c9 (some ⟨(Wz.drew.alloc (.cells #[.int .i64 0, .int .i64 0, .string ⟨#[]⟩, .slice A8 0 c8, .int .u64 0] 33)).heap.size, 0, none⟩) 1 [(⟨0, 0, ⟨#[]⟩, [], 0⟩ : S30)] _ ct_3.out c23_3.out (by intro z hz; obtain rfl := List.mem_singleton.1 hz; decide)).mono ?_
                  rintro e V4 ⟨rfl, hb⟩
                  refine ⟨_, rfl, ?_⟩
                  have HQ4 := Aside0.mk (HQ3.out.trans (hb.mono HQ3.out.size))
                  clear hb
                  refine hK.out _ _ ⟨pw_cell_below HQ4.out q0, pw_cell_below HQ4.out q1, pw_cell_below HQ4.out q2, pw_cell_below HQ4.out q3, pw_cell_below HQ4.out q4, pw_cell_below HQ4.out p0, pw_cell_below HQ4.out p1, pw_cell_below HQ4.out p2, pw_cell_below HQ4.out p3, pw_cell_below HQ4.out p4⟩ (fun hHeld => ?_)
                  clear hK K
                  refine norm_ (a' := ?_) ?_ ?_
                  rotate_left
                  · show Act.put _ (some 72) _ = _
                    simp only [Act.put, List.setIfInBounds_toArray, List.set_cons_zero, List.set_cons_succ, i64_w, i32_w]
                    rfl
                  refine pure_ (i := 6) (N := (some 73)) (v := ?_) (a' := ?_) #[true, true, true, true, true, true, true] rfl rfl (any_of HT_.out (by kernel_rfl)) (fun _ _ _ h => h) (Or.inl ⟨by rfl, ?_⟩) ?_ ?_
                  rotate_left
                  · intro w'
                    go_simp
                    with_reducible rfl
                  rotate_left
                  · simp only [Act.put, List.setIfInBounds_toArray, List.set_cons_zero, List.set_cons_succ, i64_w, i32_w]
                    rfl
                  refine done_ (done_of HT_.out (by kernel_rfl)) ?_
                  have hk31 := HLe.out
                  go_wp2
                  go_roundw
                  case rel =>
                    exact ⟨k + 1, v9, by go_num, by rw [HA.out, HAE.out], by omega, ⟨by rw [HA.out, HAE.out]; exact HWz.out.below HQ4.out⟩, ⟨by rw [HA.out]; rw [HAE.out]; exact HCz.out.below HQ4.out⟩, ⟨HBz.out.trans (HQ4.out.mono HBz.out.size)⟩⟩
                  case measure => simp [intOf]; omega
              · refine event_step (v := .slice (some ⟨Wz.drew.heap.size, 0, none⟩) 1 1) (w1 := (Wz.drew.alloc (.cells #[.int .i64 0, .int .i64 0, .string ⟨#[]⟩, .slice none 0 0, .int .u64 0] 30))) (by rfl) (by first | (go_simp; done) | (go_simp; rfl)) ?_
                have HQ1 := Aside0.mk (below_alloc HQ0.out (.cells #[.int .i64 0, .int .i64 0, .string ⟨#[]⟩, .slice none 0 0, .int .u64 0] 30))
                have c23_1 := Aside0.mk (ent_one (heap_alloc_new Wz.drew (.cells #[.int .i64 0, .int .i64 0, .string ⟨#[]⟩, .slice none 0 0, .int .u64 0] 30)) (k30_mk _ (⟨0, 0, ⟨#[]⟩, [], 0⟩ : S30) HYL.out (Kd.C_below HY.out HQ1.out)))
                refine hK.out _ _ ⟨pw_cell_below HQ1.out q0, pw_cell_below HQ1.out q1, pw_cell_below HQ1.out q2, pw_cell_below HQ1.out q3, pw_cell_below HQ1.out q4, pw_cell_below HQ1.out p0, pw_cell_below HQ1.out p1, pw_cell_below HQ1.out p2, pw_cell_below HQ1.out p3, pw_cell_below HQ1.out p4⟩ (fun hHeld => ?_)
                clear hK K
                refine norm_ (a' := ?_) ?_ ?_
                rotate_left
                · show Act.put _ (some 71) _ = _
                  simp only [Act.put, List.setIfInBounds_toArray, List.set_cons_zero, List.set_cons_succ, i64_w, i32_w]
                  rfl
                refine one_ (i := 1) (N := (some 68)) #[true, true, false, true, true, false, false] rfl rfl (one_of HT_.out (by kernel_rfl)) (by decide) (fun K hK => ?_)
                refine event_step (v := .slice (some ⟨(Wz.drew.alloc (.cells #[.int .i64 0, .int .i64 0, .string ⟨#[]⟩, .slice none 0 0, .int .u64 0] 30)).heap.size, 0, none⟩) 1 1) (w1 := ((Wz.drew.alloc (.cells #[.int .i64 0, .int .i64 0, .string ⟨#[]⟩, .slice none 0 0, .int .u64 0] 30)).alloc (.cells #[.int .i64 0, .int .i64 0, .string ⟨#[]⟩, .slice A8 0 c8, .int .u64 0] 33))) (by rfl) (by first | (go_simp; done) | (go_simp; rfl)) ?_
                have HQ2 := Aside0.mk (below_alloc HQ1.out (.cells #[.int .i64 0, .int .i64 0, .string ⟨#[]⟩, .slice A8 0 c8, .int .u64 0] 33))
                have c23_2 := Aside0.mk (Kd.C_below c23_1.out (below_alloc (Below.refl _ _) (.cells #[.int .i64 0, .int .i64 0, .string ⟨#[]⟩, .slice A8 0 c8, .int .u64 0] 33)))
                have c37_2 := Aside0.mk (ent_one (heap_alloc_new (Wz.drew.alloc (.cells #[.int .i64 0, .int .i64 0, .string ⟨#[]⟩, .slice none 0 0, .int .u64 0] 30)) (.cells #[.int .i64 0, .int .i64 0, .string ⟨#[]⟩, .slice A8 0 c8, .int .u64 0] 33)) (k30_mk _ (⟨0, 0, ⟨#[]⟩, [], 0⟩ : S30) HL8.out (Kd.C_below HC8.out HQ2.out)))
                refine hK.out _ _ ⟨pw_cell_below HQ2.out q0, pw_cell_below HQ2.out q1, pw_cell_below HQ2.out q2, pw_cell_below HQ2.out q3, pw_cell_below HQ2.out q4, pw_cell_below HQ2.out p0, pw_cell_below HQ2.out p1, pw_cell_below HQ2.out p2, pw_cell_below HQ2.out p3, pw_cell_below HQ2.out p4⟩ (fun hHeld => ?_)
                clear hK K
                refine norm_ (a' := ?_) ?_ ?_
                rotate_left
                · show Act.put _ (some 68) _ = _
                  simp only [Act.put, List.setIfInBounds_toArray, List.set_cons_zero, List.set_cons_succ, i64_w, i32_w]
                  rfl
                refine one_ (i := 2) (N := (some 69)) #[true, true, true, true, true, false, false] rfl rfl (one_of HT_.out (by kernel_rfl)) (by decide) (fun K hK => ?_)
                refine goes_ Tryd.func14 (by kernel_rfl) rfl #[.slice (some ⟨(Wz.drew.alloc (.cells #[.int .i64 0, .int .i64 0, .string ⟨#[]⟩, .slice none 0 0, .int .u64 0] 30)).heap.size, 0, none⟩) 1 1] (by rfl) rfl rfl (by (try simp only [List.map_toArray, List.map_cons, List.map_nil]); first | done | rfl) ?_
                refine (told_calls (some ⟨(Wz.drew.alloc (.cells #[.int .i64 0, .int .i64 0, .string ⟨#[]⟩, .slice none 0 0, .int .u64 0] 30)).heap.size, 0, none⟩) 1 [(⟨0, 0, ⟨#[]⟩, [], 0⟩ : S30)] _ c37_2.out (by simp)).mono ?_
                rintro e V3 ⟨A9, c9, rfl, hc9, hC, hb⟩
                refine ⟨_, rfl, ?_⟩
                have HQ3 := Aside0.mk (HQ2.out.trans (hb.mono HQ2.out.size))
                have c37_3 := Aside0.mk (Kd.C_below c37_2.out hb)
                have c23_3 := Aside0.mk (Kd.C_below c23_2.out hb)
                have ct_3 := Aside0.mk hC
                clear hb hC
                refine hK.out _ _ ⟨pw_cell_below HQ3.out q0, pw_cell_below HQ3.out q1, pw_cell_below HQ3.out q2, pw_cell_below HQ3.out q3, pw_cell_below HQ3.out q4, pw_cell_below HQ3.out p0, pw_cell_below HQ3.out p1, pw_cell_below HQ3.out p2, pw_cell_below HQ3.out p3, pw_cell_below HQ3.out p4⟩ (fun hHeld => ?_)
                clear hK K
                refine norm_ (a' := ?_) ?_ ?_
                rotate_left
                · show Act.put _ (some 69) _ = _
                  simp only [Act.put, List.setIfInBounds_toArray, List.set_cons_zero, List.set_cons_succ, i64_w, i32_w]
                  rfl
                refine one_ (i := 5) (N := (some 72)) #[true, true, true, true, true, true, false] rfl rfl (one_of HT_.out (by kernel_rfl)) (by decide) (fun K hK => ?_)
                refine goes_ Tryd.func13 (by kernel_rfl) rfl #[.slice A9 1 c9, .slice (some ⟨Wz.drew.heap.size, 0, none⟩) 1 1] (by rfl) rfl rfl (by (try simp only [List.map_toArray, List.map_cons, List.map_nil]); first | done | rfl) ?_
                refine (same_calls A9 c9 (some ⟨Wz.drew.heap.size, 0, none⟩) 1 [(⟨0, 0, ⟨#[]⟩, [], 0⟩ : S30)] _ ct_3.out c23_3.out (by intro z hz; obtain rfl := List.mem_singleton.1 hz; decide)).mono ?_
                rintro e V4 ⟨rfl, hb⟩
                refine ⟨_, rfl, ?_⟩
                have HQ4 := Aside0.mk (HQ3.out.trans (hb.mono HQ3.out.size))
                clear hb
                refine hK.out _ _ ⟨pw_cell_below HQ4.out q0, pw_cell_below HQ4.out q1, pw_cell_below HQ4.out q2, pw_cell_below HQ4.out q3, pw_cell_below HQ4.out q4, pw_cell_below HQ4.out p0, pw_cell_below HQ4.out p1, pw_cell_below HQ4.out p2, pw_cell_below HQ4.out p3, pw_cell_below HQ4.out p4⟩ (fun hHeld => ?_)
                clear hK K
                refine norm_ (a' := ?_) ?_ ?_
                rotate_left
                · show Act.put _ (some 72) _ = _
                  simp only [Act.put, List.setIfInBounds_toArray, List.set_cons_zero, List.set_cons_succ, i64_w, i32_w]
                  rfl
                refine pure_ (i := 6) (N := (some 73)) (v := ?_) (a' := ?_) #[true, true, true, true, true, true, true] rfl rfl (any_of HT_.out (by kernel_rfl)) (fun _ _ _ h => h) (Or.inl ⟨by rfl, ?_⟩) ?_ ?_
                rotate_left
                · intro w'
                  go_simp
                  with_reducible rfl
                rotate_left
                · simp only [Act.put, List.setIfInBounds_toArray, List.set_cons_zero, List.set_cons_succ, i64_w, i32_w]
                  rfl
                refine done_ (done_of HT_.out (by kernel_rfl)) ?_
                have hk31 := HLe.out
                go_wp2
                go_roundw
                case rel =>
                  exact ⟨k + 1, v9, by go_num, by rw [HA.out, HAE.out], by omega, ⟨by rw [HA.out, HAE.out]; exact HWz.out.below HQ4.out⟩, ⟨by rw [HA.out]; rw [HAE.out]; exact HCz.out.below HQ4.out⟩, ⟨HBz.out.trans (HQ4.out.mono HBz.out.size)⟩⟩
                case measure => simp [intOf]; omega
      · skip
        have hke : k = es.length := by omega
        subst hke
        rw [List.take_length] at HW HCr ⊢
        obtain ⟨u, rfl⟩ : ∃ u : Nat, seed = u := ⟨seed.toNat, by have := HS.out; omega⟩
        have hu : Aside0 (u < 18446744073709551616) := ⟨by have := HS.out; omega⟩
        have HDL : Aside0 ((adds u [] es).length ≤ 31) := ⟨by have h1 := adds_len u es []; have h2 := HLe.out; simp at h1; omega⟩
        have HDF := Aside0.mk (adds_fine u es [] (by simp))
        obtain ⟨dn, hdn⟩ : ∃ dn, dn = adds u [] es := ⟨_, rfl⟩
        rw [← hdn] at HW HCr HDL HDF ⊢
        clear hdn
        obtain ⟨Aw, cw, rfl, hlw, hrw⟩ := HW.out.reads
        have HCw : Aside0 (Kd.C k30 wr Aw dn.length dn) := ⟨ReadsRow.imp_ hrw (Below.refl _ _) (fun _ _ h => k30.K_below HBr.out h)⟩
        clear hlw hrw
        have HE0 := Aside0.mk (below_drew (Below.refl wr.heap.size wr))
        go_wp2_with fail
        refine start_ (n := 15) (S := fun _ => True) (ds := []) #[false, false, false, false, false, false, false, false, false, false, false, false, false, false, false] (by kernel_rfl) rfl rfl trivial (fun hHeld => ?_)
        refine with_tabW reg3_23.tab reg3_23.bits (fun HT_ HW_ => ?_)
        refine pure_ (i := 0) (N := (some 74)) (v := ?_) (a' := ?_) #[true, false, false, false, false, false, false, false, false, false, false, false, false, false, false] rfl rfl (any_of HT_.out (by kernel_rfl)) (fun _ _ _ h => h) (Or.inl ⟨by rfl, ?_⟩) ?_ ?_
        rotate_left
        · intro w'
          go_simp
          with_reducible rfl
        rotate_left
        · simp only [Act.put, List.setIfInBounds_toArray, List.set_cons_zero, List.set_cons_succ, i64_w, i32_w]
          rfl
        refine pure_ (i := 3) (N := (some 77)) (v := ?_) (a' := ?_) #[true, false, false, true, false, false, false, false, false, false, false, false, false, false, false] rfl rfl (any_of HT_.out (by kernel_rfl)) (fun _ _ _ h => h) (Or.inl ⟨by rfl, ?_⟩) ?_ ?_
        rotate_left
        · intro w'
          go_simp
          with_reducible rfl
        rotate_left
        · simp only [Act.put, List.setIfInBounds_toArray, List.set_cons_zero, List.set_cons_succ, i64_w, i32_w]
          rfl
        refine one_ (i := 1) (N := (some 75)) #[true, true, false, true, false, false, false, false, false, false, false, false, false, false, false] rfl rfl (one_of HT_.out (by kernel_rfl)) (by decide) (fun K hK => ?_)
        refine goes_ Tryd.func15 (by kernel_rfl) rfl #[.pointer (some ⟨w2.heap.size, 0, none⟩)] (by rfl) rfl rfl (by (try simp only [List.map_toArray, List.map_cons, List.map_nil]); first | done | rfl) ?_
        refine (entries_calls w2.heap.size v u dn _ (HCr.out.below HE0.out) (by have := HDL.out; omega) (fun z hz => by have := mayE_parts (HDF.out z hz).1; omega)).mono ?_
        rintro e V1 ⟨v9, rfl, hR, hb⟩
        refine ⟨_, rfl, ?_⟩
        obtain ⟨A9, c9, rfl⟩ := Kd.R_slice hR
        obtain ⟨A9', c9', e9, _, hC9⟩ := Kd.R_reads hR
        obtain ⟨rfl, rfl⟩ : A9 = A9' ∧ c9 = c9' := by cases e9; exact ⟨rfl, rfl⟩
        have HE1 := Aside0.mk (HE0.out.trans (hb.mono HE0.out.size))
        clear hb hR e9
        have HC9 := Aside0.mk hC9
        clear hC9
        refine hK.out _ _ trivial (fun hHeld => ?_)
        clear hK K
        refine norm_ (a' := ?_) ?_ ?_
        rotate_left
        · show Act.put _ (some 75) _ = _
          simp only [Act.put, List.setIfInBounds_toArray, List.set_cons_zero, List.set_cons_succ, i64_w, i32_w]
          rfl
        refine one_ (i := 2) (N := (some 76)) #[true, true, true, true, false, false, false, false, false, false, false, false, false, false, false] rfl rfl (one_of HT_.out (by kernel_rfl)) (by decide) (fun K hK => ?_)
        refine goes_ Tryd.func14 (by kernel_rfl) rfl #[.slice A9 dn.length c9] (by rfl) rfl rfl (by (try simp only [List.map_toArray, List.map_cons, List.map_nil]); first | done | rfl) ?_
        refine (told_calls A9 c9 dn _ HC9.out (by have := HDL.out; omega)).mono ?_
        rintro e V2 ⟨A10, c10, rfl, hc10, hC10, hb⟩
        refine ⟨_, rfl, ?_⟩
        have HE2 := Aside0.mk (HE1.out.trans (hb.mono HE1.out.size))
        clear hb hc10
        have HC10 := Aside0.mk hC10
        clear hC10
        refine hK.out _ _ trivial (fun hHeld => ?_)
        clear hK K
        refine norm_ (a' := ?_) ?_ ?_
        rotate_left
        · show Act.put _ (some 76) _ = _
          simp only [Act.put, List.setIfInBounds_toArray, List.set_cons_zero, List.set_cons_succ, i64_w, i32_w]
          rfl
        refine one_ (i := 4) (N := (some 78)) #[true, true, true, true, true, false, false, false, false, false, false, false, false, false, false] rfl rfl (one_of HT_.out (by kernel_rfl)) (by decide) (fun K hK => ?_)
        refine goes_ Tryd.func13 (by kernel_rfl) rfl #[.slice A10 dn.length c10, .slice Aw dn.length cw] (by rfl) rfl rfl (by (try simp only [List.map_toArray, List.map_cons, List.map_nil]); first | done | rfl) ?_
        refine (same_calls A10 c10 Aw cw dn _ HC10.out (Kd.C_below HCw.out HE2.out) (fun z hz => by have := mayE_parts (HDF.out z hz).1; omega)).mono ?_
        rintro e V3 ⟨rfl, hb⟩
        refine ⟨_, rfl, ?_⟩
        have HE3 := Aside0.mk (HE2.out.trans (hb.mono HE2.out.size))
        clear hb
        refine hK.out _ _ trivial (fun hHeld => ?_)
        clear hK K
        refine norm_ (a' := ?_) ?_ ?_
        rotate_left
        · show Act.put _ (some 78) _ = _
          simp only [Act.put, List.setIfInBounds_toArray, List.set_cons_zero, List.set_cons_succ, i64_w, i32_w]
          rfl
        refine pure_ (i := 5) (N := (some 79)) (v := ?_) (a' := ?_) #[true, true, true, true, true, true, false, false, false, false, false, false, false, false, false] rfl rfl (any_of HT_.out (by kernel_rfl)) (fun _ _ _ h => h) (Or.inl ⟨by rfl, ?_⟩) ?_ ?_
        rotate_left
        · intro w'
          go_simp
          with_reducible rfl
        rotate_left
        · simp only [Act.put, List.setIfInBounds_toArray, List.set_cons_zero, List.set_cons_succ, i64_w, i32_w]
          rfl
        refine pure_ (i := 6) (N := (some 80)) (v := ?_) (a' := ?_) #[true, true, true, true, true, true, true, false, false, false, false, false, false, false, false] rfl rfl (any_of HT_.out (by kernel_rfl)) (fun _ _ _ h => h) (Or.inl ⟨by rfl, ?_⟩) ?_ ?_
        rotate_left
        · intro w'
          go_simp
          with_reducible rfl
        rotate_left
        · simp only [Act.put, List.setIfInBounds_toArray, List.set_cons_zero, List.set_cons_succ, i64_w, i32_w]
          rfl
        refine pure_ (i := 9) (N := (some 83)) (v := ?_) (a' := ?_) #[true, true, true, true, true, true, true, false, false, true, false, false, false, false, false] rfl rfl (any_of HT_.out (by kernel_rfl)) (fun _ _ _ h => h) (Or.inl ⟨by rfl, ?_⟩) ?_ ?_
        rotate_left
        · intro w'
          go_simp
          with_reducible rfl
        rotate_left
        · simp only [Act.put, List.setIfInBounds_toArray, List.set_cons_zero, List.set_cons_succ, i64_w, i32_w]
          rfl
        refine pure_ (i := 10) (N := (some 84)) (v := ?_) (a' := ?_) #[true, true, true, true, true, true, true, false, false, true, true, false, false, false, false] rfl rfl (any_of HT_.out (by kernel_rfl)) (fun _ _ _ h => h) (Or.inl ⟨by rfl, ?_⟩) ?_ ?_
        rotate_left
        · intro w'
          go_simp
          with_reducible rfl
        rotate_left
        · simp only [Act.put, List.setIfInBounds_toArray, List.set_cons_zero, List.set_cons_succ, i64_w, i32_w]
          rfl
        refine one_ (i := 7) (N := (some 81)) #[true, true, true, true, true, true, true, true, false, true, true, false, false, false, false] rfl rfl (one_of HT_.out (by kernel_rfl)) (by decide) (fun K hK => ?_)
        refine goes_ Tryd.func16 (by kernel_rfl) rfl #[.pointer (some ⟨w2.heap.size, 0, none⟩)] (by rfl) rfl rfl (by (try simp only [List.map_toArray, List.map_cons, List.map_nil]); first | done | rfl) ?_
        refine (encode_calls w2.heap.size v u dn _ (HCr.out.below HE3.out) hu.out HDF.out (by have := HDL.out; omega) (HT2.out.below (HBr.out.trans (HE3.out.mono HBr.out.size)))).mono ?_
        rintro e V4 ⟨A11, c11, rfl, hc11, hr11, hb⟩
        refine ⟨_, rfl, ?_⟩
        have HE4 := Aside0.mk (HE3.out.trans (hb.mono HE3.out.size))
        clear hb hc11
        have HR11 := Aside0.mk hr11
        have hcv := conv_back V4 A11 c11 _ hr11
        clear hr11
        refine hK.out _ _ trivial (fun hHeld => ?_)
        clear hK K
        refine norm_ (a' := ?_) ?_ ?_
        rotate_left
        · show Act.put _ (some 81) _ = _
          simp only [Act.put, List.setIfInBounds_toArray, List.set_cons_zero, List.set_cons_succ, i64_w, i32_w]
          rfl
        refine two_ (i := 8) (j := 11) (Ni := (some 82)) (Nj := (some 85)) #[true, true, true, true, true, true, true, true, true, true, true, false, false, false, false] #[true, true, true, true, true, true, true, true, false, true, true, true, false, false, false] rfl rfl rfl rfl (two_of HT_.out (by kernel_rfl)) (by decide) (by decide) (fun K hK => ?_) (fun K hK => ?_)
        · refine event_step (v := .string (encB u dn)) (w1 := V4) (by rfl) (by first | (go_simp; done) | (go_simp; rfl)) ?_
          clear hcv
          refine hK.out _ _ trivial (fun hHeld => ?_)
          clear hK K
          refine norm_ (a' := ?_) ?_ ?_
          rotate_left
          · show Act.put _ (some 82) _ = _
            simp only [Act.put, List.setIfInBounds_toArray, List.set_cons_zero, List.set_cons_succ, i64_w, i32_w]
            rfl
          refine one_ (i := 11) (N := (some 85)) #[true, true, true, true, true, true, true, true, true, true, true, true, false, false, false] rfl rfl (one_of HT_.out (by kernel_rfl)) (by decide) (fun K hK => ?_)
          refine goes_ Tryd.func17 (by kernel_rfl) rfl #[.int .u64 u, .slice Aw dn.length cw] (by rfl) rfl rfl (by (try simp only [List.map_toArray, List.map_cons, List.map_nil]); first | done | rfl) ?_
          refine (refEncode_calls Aw cw u dn _ (Kd.C_below HCw.out HE4.out) hu.out HDF.out (by have := HDL.out; omega)).mono ?_
          rintro e V5 ⟨rfl, hb⟩
          refine ⟨_, rfl, ?_⟩
          have HE5 := Aside0.mk (HE4.out.trans (hb.mono HE4.out.size))
          try clear hcv
          have hcv := conv_back V5 A11 c11 _ (HR11.out.below hb)
          clear hb
          refine hK.out _ _ trivial (fun hHeld => ?_)
          clear hK K
          refine norm_ (a' := ?_) ?_ ?_
          rotate_left
          · show Act.put _ (some 85) _ = _
            simp only [Act.put, List.setIfInBounds_toArray, List.set_cons_zero, List.set_cons_succ, i64_w, i32_w]
            rfl
          refine pure_ (i := 12) (N := (some 86)) (v := ?_) (a' := ?_) #[true, true, true, true, true, true, true, true, true, true, true, true, true, false, false] rfl rfl (any_of HT_.out (by kernel_rfl)) (fun _ _ _ h => h) (Or.inl ⟨by rfl, ?_⟩) ?_ ?_
          rotate_left
          · intro w'
            go_simp
            with_reducible rfl
          rotate_left
          · simp only [Act.put, List.setIfInBounds_toArray, List.set_cons_zero, List.set_cons_succ, i64_w, i32_w]
            rfl
          refine pure_ (i := 13) (N := (some 87)) (v := ?_) (a' := ?_) #[true, true, true, true, true, true, true, true, true, true, true, true, true, true, false] rfl rfl (any_of HT_.out (by kernel_rfl)) (fun _ _ _ h => h) (Or.inl ⟨by rfl, ?_⟩) ?_ ?_
          rotate_left
          · intro w'
            go_simp
            with_reducible rfl
          rotate_left
          · simp only [Act.put, List.setIfInBounds_toArray, List.set_cons_zero, List.set_cons_succ, i64_w, i32_w]
            rfl
          refine pure_ (i := 14) (N := (some 4)) (v := ?_) (a' := ?_) #[true, true, true, true, true, true, true, true, true, true, true, true, true, true, true] rfl rfl (any_of HT_.out (by kernel_rfl)) (fun _ _ _ h => h) (Or.inl ⟨by rfl, ?_⟩) ?_ ?_
          rotate_left
          · intro w'
            go_simp
            with_reducible rfl
          rotate_left
          · simp only [Act.put, List.setIfInBounds_toArray, List.set_cons_zero, List.set_cons_succ, i64_w, i32_w]
            rfl
          refine done_ (done_of HT_.out (by kernel_rfl)) ?_
          go_wp2
          go_ret
          exact ⟨rfl, HB2.out.trans ((HBr.out.trans (HE5.out.mono HBr.out.size)).mono HB2.out.size)⟩
        · refine goes_ Tryd.func17 (by kernel_rfl) rfl #[.int .u64 u, .slice Aw dn.length cw] (by rfl) rfl rfl (by (try simp only [List.map_toArray, List.map_cons, List.map_nil]); first | done | rfl) ?_
          refine (refEncode_calls Aw cw u dn _ (Kd.C_below HCw.out HE4.out) hu.out HDF.out (by have := HDL.out; omega)).mono ?_
          rintro e V5 ⟨rfl, hb⟩
          refine ⟨_, rfl, ?_⟩
          have HE5 := Aside0.mk (HE4.out.trans (hb.mono HE4.out.size))
          try clear hcv
          have hcv := conv_back V5 A11 c11 _ (HR11.out.below hb)
          clear hb
          refine hK.out _ _ trivial (fun hHeld => ?_)
          clear hK K
          refine norm_ (a' := ?_) ?_ ?_
          rotate_left
          · show Act.put _ (some 85) _ = _
            simp only [Act.put, List.setIfInBounds_toArray, List.set_cons_zero, List.set_cons_succ, i64_w, i32_w]
            rfl
          refine one_ (i := 8) (N := (some 82)) #[true, true, true, true, true, true, true, true, true, true, true, true, false, false, false] rfl rfl (one_of HT_.out (by kernel_rfl)) (by decide) (fun K hK => ?_)
          refine event_step (v := .string (encB u dn)) (w1 := V5) (by rfl) (by first | (go_simp; done) | (go_simp; rfl)) ?_
          clear hcv
          refine hK.out _ _ trivial (fun hHeld => ?_)
          clear hK K
          refine norm_ (a' := ?_) ?_ ?_
          rotate_left
          · show Act.put _ (some 82) _ = _
            simp only [Act.put, List.setIfInBounds_toArray, List.set_cons_zero, List.set_cons_succ, i64_w, i32_w]
            rfl
          refine pure_ (i := 12) (N := (some 86)) (v := ?_) (a' := ?_) #[true, true, true, true, true, true, true, true, true, true, true, true, true, false, false] rfl rfl (any_of HT_.out (by kernel_rfl)) (fun _ _ _ h => h) (Or.inl ⟨by rfl, ?_⟩) ?_ ?_
          rotate_left
          · intro w'
            go_simp
            with_reducible rfl
          rotate_left
          · simp only [Act.put, List.setIfInBounds_toArray, List.set_cons_zero, List.set_cons_succ, i64_w, i32_w]
            rfl
          refine pure_ (i := 13) (N := (some 87)) (v := ?_) (a' := ?_) #[true, true, true, true, true, true, true, true, true, true, true, true, true, true, false] rfl rfl (any_of HT_.out (by kernel_rfl)) (fun _ _ _ h => h) (Or.inl ⟨by rfl, ?_⟩) ?_ ?_
          rotate_left
          · intro w'
            go_simp
            with_reducible rfl
          rotate_left
          · simp only [Act.put, List.setIfInBounds_toArray, List.set_cons_zero, List.set_cons_succ, i64_w, i32_w]
            rfl
          refine pure_ (i := 14) (N := (some 4)) (v := ?_) (a' := ?_) #[true, true, true, true, true, true, true, true, true, true, true, true, true, true, true] rfl rfl (any_of HT_.out (by kernel_rfl)) (fun _ _ _ h => h) (Or.inl ⟨by rfl, ?_⟩) ?_ ?_
          rotate_left
          · intro w'
            go_simp
            with_reducible rfl
          rotate_left
          · simp only [Act.put, List.setIfInBounds_toArray, List.set_cons_zero, List.set_cons_succ, i64_w, i32_w]
            rfl
          refine done_ (done_of HT_.out (by kernel_rfl)) ?_
          go_wp2
          go_ret
          exact ⟨rfl, HB2.out.trans ((HBr.out.trans (HE5.out.mono HBr.out.size)).mono HB2.out.size)⟩
end Go.Proofs.YtmbkmfdmpimegaaDoor
