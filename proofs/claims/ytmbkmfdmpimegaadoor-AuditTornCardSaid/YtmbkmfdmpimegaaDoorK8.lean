/-
  The walk of the law AuditTorn: it answers true.
-/
import Derived.Test.YtmbkmfdmpimegaaDoorK3
import Derived.Test.YtmbkmfdmpimegaaDoorK6
set_option linter.unusedSimpArgs false
set_option linter.unusedVariables false
namespace Go.Proofs.YtmbkmfdmpimegaaDoor
open Go.RowKit Go.Lib Go.Sort Go.Proofs.YtmbkmfdmpimegaaDoorW.PrintWords Go.Proofs.YtmbkmfdmpimegaaDoorW.PrintLast Go.Proofs.YtmbkmfdmpimegaaDoor.PR

def reg5_11.T : Bool × List (List Nat × List Nat) := (true, [([], []), ([], []), ([], []), ([1, 2], [1, 2]), ([3], [3]), ([4], [4]), ([], []), ([], []), ([6, 7], [6, 7]), ([8], [8]), ([9], [9]), ([], []), ([], []), ([11, 12], [11, 12]), ([13], [13]), ([14], [14]), ([], []), ([], []), ([16, 17], [16, 17]), ([18], [18]), ([19], [19]), ([0, 5, 10, 15, 20], [0, 5, 10, 15, 20])])
def reg5_11.B : List Nat := [0, 0, 0, 6, 14, 30, 0, 0, 192, 448, 960, 0, 0, 6144, 14336, 30720, 0, 0, 196608, 458752, 983040, 2097151]
theorem reg5_11.tab : rtab .any (opsOf Tryd.f5 11) = reg5_11.T := by kernel_rfl
theorem reg5_11.bits : waitsOk reg5_11.T.2 reg5_11.B = true := by kernel_rfl
/-- how often a byte is 10 in the first k ones -/
def tens (s : ByteArray) (k : Nat) : Nat := (s.data.toList.take k).count 10
theorem tens_succ (s : ByteArray) (k : Nat) (hk : k < s.size) : tens s (k + 1) = tens s k + if bt s (k : Int) = 10 then 1 else 0 := by
  have hl : k < s.data.toList.length := by simpa using hk
  unfold tens
  rw [List.take_succ_eq_append_getElem hl, List.count_append]
  congr 1
  have hb : bt s (k : Int) = ((s.data.toList[k]).toNat : Int) := by
    rw [← rd_bytesOf]
    simp [rd, bytesOf, List.getD_eq_getElem?_getD, hk]
  rw [hb]
  by_cases h : s.data.toList[k] = 10
  · rw [h]; rfl
  · rw [List.count_eq_zero.2 (by simpa using fun e => h e.symm), if_neg]
    intro e
    exact h (UInt8.toNat_inj.1 (by have : (10 : UInt8).toNat = 10 := rfl; omega))
theorem tens_le (s : ByteArray) (k : Nat) : tens s k ≤ k := by
  unfold tens
  have h1 := List.count_le_length (a := (10 : UInt8)) (l := s.data.toList.take k)
  rw [List.length_take] at h1; omega
theorem bt_ten (s : ByteArray) (k : Nat) (hk : k < s.size) : s.data.toList[k]? = some 10 ↔ bt s (k : Int) = 10 := by
  have hl : k < s.data.toList.length := by simpa using hk
  have hb : bt s (k : Int) = ((s.data.toList[k]).toNat : Int) := by
    rw [← rd_bytesOf]
    simp [rd, bytesOf, List.getD_eq_getElem?_getD, hk]
  rw [hb, List.getElem?_eq_getElem hl]
  constructor
  · intro h
    have h' : s.data.toList[k] = 10 := by simpa using h
    rw [h']; rfl
  · intro h
    have h' : s.data.toList[k] = 10 := UInt8.toNat_inj.1 (by have : (10 : UInt8).toNat = 10 := rfl; omega)
    rw [h']
theorem C_take {α : Type} {d : Kd α} {w : World} {A : Option Addr} {xs : List α} (h : Kd.C d w A xs.length xs) (j : Nat) (hj : j ≤ xs.length) : Kd.C d w A (xs.take j).length (xs.take j) := by
  refine ⟨rfl, Nat.le_trans (by rw [List.length_take]; omega) h.2.1, fun hn => ?_⟩
  rw [List.length_take] at hn
  obtain ⟨ad, e, hc⟩ := h.2.2 (by omega)
  refine ⟨ad, e, fun i p hi => hc i p ?_⟩
  rw [List.getElem?_take] at hi
  split at hi
  · exact hi
  · cases hi
theorem R_none {e : Nat} {w : World} {base n c : Nat} {ok : Nat → Prop} {xs : List S30} (h : k30.R e w base ok (.slice none n c) xs) : xs.length = 0 ∧ c = 0 := by
  obtain ⟨A, c', e1, hl, hC⟩ := Kd.R_reads h
  obtain ⟨inner, ho⟩ := Kd.R_own h
  injection e1 with _ hn _
  rcases ho.2 with ⟨e2, _⟩ | ⟨g, cap, cur, e2, _⟩
  · injection e2 with _ hn2 hc2
    exact ⟨hn.symm.trans hn2, hc2⟩
  · injection e2 with e3
    cases e3
theorem encFrom_size : ∀ (es : List S30) (acc : ByteArray), (∀ x ∈ es, Fine x) → (encFrom acc es).size ≤ acc.size + es.length * 200001
  | [], acc, _ => by simp [encFrom]
  | x :: l, acc, h => by
    have h1 := encFrom_size l (acc ++ (lineB x ++ ⟨#[10]⟩)) (fun y hy => h y (List.mem_cons_of_mem _ hy))
    have h2 := lineB_size x (h x List.mem_cons_self)
    have h3 : (⟨#[10]⟩ : ByteArray).size = 1 := rfl
    simp only [encFrom, List.length_cons, ByteArray.size_append] at h1 ⊢
    omega
theorem encB_size (u : Nat) (es : List S30) (hu : u < 18446744073709551616) (hf : ∀ x ∈ es, Fine x) (hl : es.length ≤ 31) : (encB u es).size ≤ 10000000 := by
  have h1 := encFrom_size es (beginB u ++ ⟨#[10]⟩) hf
  have h2 := utoaB_size u hu
  have h3 : (⟨#[10]⟩ : ByteArray).size = 1 := rfl
  have h4 : (⟨#[97, 117, 100, 105, 116, 32]⟩ : ByteArray).size = 6 := rfl
  unfold encB
  simp only [beginB, ByteArray.size_append] at h1 ⊢
  omega

set_option maxRecDepth 100000 in
set_option maxHeartbeats 4000000 in
theorem auditTorn_calls (seed : Int) (A : Option Addr) (c : Nat) (es : List S30) (cut : Int) (w : World) (hC : Kd.C k30 w A es.length es) (hc : es.length ≤ c) (hn : es.length ≤ 9223372036854775807) (ht : Env w) (hs0 : 0 ≤ seed) (hs1 : seed < 18446744073709551616) :
    Calls Tryd.prog 5 #[.int .u64 seed, .slice A es.length c, .int .i64 cut] w fun e w' => e = .returned (.bool true) ∧ Below w.heap.size w w' := by
  have HC := Aside0.mk hC
  have HT := Aside0.mk ht
  have HL := Aside0.mk hc
  have HN := Aside0.mk hn
  have HS := Aside0.mk (And.intro hs0 hs1)
  clear hC ht hc hn hs0 hs1
  go_enter Tryd.func5, Tryd.ntmps5
  go_wp2_with fail
  refine (lives_calls w HT.out.tab).mono ?_
  rintro e w1 ⟨rfl, hb1⟩
  have HB1 := Aside0.mk hb1
  clear hb1
  go_wp2_with fail
  refine (ciceroneref43_Few.calls (2 + 40 * es.length) A c es (fewB es) w1 (Kd.C_below HC.out HB1.out) HL.out (few_ref _ es HN.out (by omega))).mono ?_
  rintro e w2 ⟨rfl, hb2⟩
  have HB2 := Aside0.mk (HB1.out.trans (hb2.below.mono HB1.out.size))
  clear hb2 HB1
  cases hf : fewB es with
  | false =>
    clear hf
    go_wp2
    go_ret
    exact ⟨rfl, HB2.out⟩
  | true =>
    have hle : es.length ≤ 31 ∧ ∀ x ∈ es, shortE x = true := by simpa [fewB] using hf
    have HLe := Aside0.mk hle.1
    have HSh := Aside0.mk hle.2
    clear hf hle
    go_wp2_with fail
    refine (new_calls seed w2).mono ?_
    rintro e w3 ⟨rfl, rfl⟩
    have HCh := Aside0.mk (chain_new seed w2)
    have HB3 := Aside0.mk (below_alloc (Below.refl w2.heap.size w2) (.cells #[.int .u64 seed, .slice none 0 0] 52))
    obtain ⟨W3, e3⟩ : ∃ W3, W3 = w2.alloc (.cells #[.int .u64 seed, .slice none 0 0] 52) := ⟨_, rfl⟩
    rw [← e3] at HCh HB3 ⊢
    clear e3
    have HC2 := Aside0.mk (Kd.C_below HC.out HB2.out)
    have HT2 := Aside0.mk (HT.out.tab.below HB2.out)
    have HE2 := Aside0.mk (HT.out.below HB2.out)
    clear HC
    go_wp2_with fail
    go_loopw [8] (fun i wr => ∃ (k : Nat) (v : Value), i = .int .i64 k ∧ k ≤ es.length ∧ Aside0 (Chain w2.heap.size (nb w2.heap.size) wr w2.heap.size v seed (adds seed [] (es.take k))) ∧ Aside0 (Below w2.heap.size w2 wr)) (fun i _ => es.length - (intOf i).toNat)
    case atStart => exact ⟨0, _, rfl, Nat.zero_le _, HCh, HB3⟩
    case round =>
      obtain ⟨k, v, rfl, hk, HCr, HBr⟩ := hrel
      by_cases hlt : k < es.length
      · cases A with
        | none => obtain ⟨ad, e, _⟩ := HC2.out.2.2 (by omega); cases e
        | some ad =>
          obtain ⟨A3, c3, g0, g1, g2, g3, g4, hl3, hC3⟩ := ent_get HC2.out k hlt
          have HA := Aside0.mk (adds_snoc seed es k hlt)
          have hlen := adds_len seed (es.take k) []
          have HX := Aside0.mk (HSh.out es[k] (List.getElem_mem hlt))
          obtain ⟨x, hx⟩ : ∃ x, x = es[k] := ⟨_, rfl⟩
          rw [← hx] at g0 g1 g2 g3 g4 hl3 hC3 HA HX
          clear hx
          obtain ⟨acc, hacc⟩ : ∃ acc, acc = adds seed [] (es.take k) := ⟨_, rfl⟩
          rw [← hacc] at HA HCr hlen
          clear hacc
          have hxs : x.f2.size ≤ 100 ∧ x.f3.length ≤ 30 ∧ ∀ s ∈ x.f3, s.size ≤ 100 := by have := HX.out; simp [shortE] at this; exact ⟨this.1.1, this.1.2, this.2⟩
          have hal : acc.length ≤ 31 := by
            have h1 := HLe.out
            rw [List.length_take] at hlen
            simp at hlen
            omega
          have HXS := Aside0.mk hxs
          have HAL := Aside0.mk hal
          have HC3 := Aside0.mk hC3
          have HL3 := Aside0.mk hl3
          have HBs := Aside0.mk (below_drew HBr.out)
          have HCs := Aside0.mk (HCr.out.below (below_drew (Below.refl _ _)))
          have h31 := HLe.out
          clear hC3 hl3 hlen hal hxs
          go_wp2_with fail
          refine start_ (n := 22) (S := fun W => W.cell? (ad.add (k * 5)) = some (.int .i64 x.f0) ∧ W.cell? ⟨(ad.add (k * 5)).block, (ad.add (k * 5)).off + 1, none⟩ = some (.int .i64 x.f1) ∧ W.cell? ⟨(ad.add (k * 5)).block, (ad.add (k * 5)).off + 2, none⟩ = some (.string x.f2) ∧ W.cell? ⟨(ad.add (k * 5)).block, (ad.add (k * 5)).off + 3, none⟩ = some (.slice A3 x.f3.length c3)) (ds := [21]) #[false, false, false, false, false, false, false, false, false, false, false, false, false, false, false, false, false, false, false, false, false, false] (by kernel_rfl) rfl rfl ⟨pw_cell_below HBs.out g0, pw_cell_below HBs.out g1, pw_cell_below HBs.out g2, pw_cell_below HBs.out g3⟩ (fun hHeld => ?_)
          refine with_tabW reg5_11.tab reg5_11.bits (fun HT_ HW_ => ?_)
          refine pure_ (i := 0) (N := (some 30)) (v := ?_) (a' := ?_) #[true, false, false, false, false, false, false, false, false, false, false, false, false, false, false, false, false, false, false, false, false, false] rfl rfl (any_of HT_.out (by kernel_rfl)) (fun _ _ _ h => h) (Or.inl ⟨by rfl, ?_⟩) ?_ ?_
          rotate_left
          · intro w'
            go_simp
            with_reducible rfl
          rotate_left
          · simp only [Act.put, List.setIfInBounds_toArray, List.set_cons_zero, List.set_cons_succ, i64_w, i32_w]
            rfl
          refine pure_ (i := 1) (N := (some 31)) (v := ?_) (a' := ?_) #[true, true, false, false, false, false, false, false, false, false, false, false, false, false, false, false, false, false, false, false, false, false] rfl rfl (any_of HT_.out (by kernel_rfl)) (fun _ _ _ h => h) (Or.inl ⟨by rfl, ?_⟩) ?_ ?_
          rotate_left
          · intro w'
            go_simp
            with_reducible rfl
          rotate_left
          · simp only [Act.put, List.setIfInBounds_toArray, List.set_cons_zero, List.set_cons_succ, i64_w, i32_w]
            rfl
          refine pure_ (i := 2) (N := (some 32)) (v := ?_) (a' := ?_) #[true, true, true, false, false, false, false, false, false, false, false, false, false, false, false, false, false, false, false, false, false, false] rfl rfl (any_of HT_.out (by kernel_rfl)) (fun _ _ _ h => h) (Or.inl ⟨by rfl, ?_⟩) ?_ ?_
          rotate_left
          · intro w'
            go_simp
            with_reducible rfl
          rotate_left
          · simp only [Act.put, List.setIfInBounds_toArray, List.set_cons_zero, List.set_cons_succ, i64_w, i32_w]
            rfl
          refine pure_ (i := 3) (N := (some 33)) (v := ?_) (a' := ?_) #[true, true, true, true, false, false, false, false, false, false, false, false, false, false, false, false, false, false, false, false, false, false] rfl rfl (any_of HT_.out (by kernel_rfl)) (fun _ _ _ h => h) (Or.inl ⟨by rfl, ?_⟩) ?_ ?_
          rotate_left
          · intro w'
            go_simp
            with_reducible rfl
          rotate_left
          · simp only [Act.put, List.setIfInBounds_toArray, List.set_cons_zero, List.set_cons_succ, i64_w, i32_w]
            rfl
          refine pure_ (i := 4) (N := (some 34)) (v := ?_) (a' := ?_) #[true, true, true, true, true, false, false, false, false, false, false, false, false, false, false, false, false, false, false, false, false, false] rfl rfl (any_of HT_.out (by kernel_rfl)) (fun _ _ _ h => h) (Or.inl ⟨by rfl, ?_⟩) ?_ ?_
          rotate_left
          · intro w'
            go_simp
            with_reducible rfl
          rotate_left
          · simp only [Act.put, List.setIfInBounds_toArray, List.set_cons_zero, List.set_cons_succ, i64_w, i32_w]
            rfl
          refine pure_ (i := 6) (N := (some 36)) (v := ?_) (a' := ?_) #[true, true, true, true, true, false, true, false, false, false, false, false, false, false, false, false, false, false, false, false, false, false] rfl rfl (any_of HT_.out (by kernel_rfl)) (fun _ _ _ h => h) (Or.inl ⟨by rfl, ?_⟩) ?_ ?_
          rotate_left
          · intro w'
            go_simp
            with_reducible rfl
          rotate_left
          · simp only [Act.put, List.setIfInBounds_toArray, List.set_cons_zero, List.set_cons_succ, i64_w, i32_w]
            rfl
          refine pure_ (i := 7) (N := (some 37)) (v := ?_) (a' := ?_) #[true, true, true, true, true, false, true, true, false, false, false, false, false, false, false, false, false, false, false, false, false, false] rfl rfl (any_of HT_.out (by kernel_rfl)) (fun _ _ _ h => h) (Or.inl ⟨by rfl, ?_⟩) ?_ ?_
          rotate_left
          · intro w'
            go_simp
            with_reducible rfl
          rotate_left
          · simp only [Act.put, List.setIfInBounds_toArray, List.set_cons_zero, List.set_cons_succ, i64_w, i32_w]
            rfl
          refine pure_ (i := 8) (N := (some 38)) (v := ?_) (a' := ?_) #[true, true, true, true, true, false, true, true, true, false, false, false, false, false, false, false, false, false, false, false, false, false] rfl rfl (any_of HT_.out (by kernel_rfl)) (fun _ _ _ h => h) (Or.inl ⟨by rfl, ?_⟩) ?_ ?_
          rotate_left
          · intro w'
            go_simp
            with_reducible rfl
          rotate_left
          · simp only [Act.put, List.setIfInBounds_toArray, List.set_cons_zero, List.set_cons_succ, i64_w, i32_w]
            rfl
          refine pure_ (i := 9) (N := (some 39)) (v := ?_) (a' := ?_) #[true, true, true, true, true, false, true, true, true, true, false, false, false, false, false, false, false, false, false, false, false, false] rfl rfl (any_of HT_.out (by kernel_rfl)) (fun _ _ _ h => h) (Or.inl ⟨by rfl, ?_⟩) ?_ ?_
          rotate_left
          · intro w'
            go_simp
            with_reducible rfl
          rotate_left
          · simp only [Act.put, List.setIfInBounds_toArray, List.set_cons_zero, List.set_cons_succ, i64_w, i32_w]
            rfl
          refine pure_ (i := 11) (N := (some 41)) (v := ?_) (a' := ?_) #[true, true, true, true, true, false, true, true, true, true, false, true, false, false, false, false, false, false, false, false, false, false] rfl rfl (any_of HT_.out (by kernel_rfl)) (fun _ _ _ h => h) (Or.inl ⟨by rfl, ?_⟩) ?_ ?_
          rotate_left
          · intro w'
            go_simp
            with_reducible rfl
          rotate_left
          · simp only [Act.put, List.setIfInBounds_toArray, List.set_cons_zero, List.set_cons_succ, i64_w, i32_w]
            rfl
          refine pure_ (i := 12) (N := (some 42)) (v := ?_) (a' := ?_) #[true, true, true, true, true, false, true, true, true, true, false, true, true, false, false, false, false, false, false, false, false, false] rfl rfl (any_of HT_.out (by kernel_rfl)) (fun _ _ _ h => h) (Or.inl ⟨by rfl, ?_⟩) ?_ ?_
          rotate_left
          · intro w'
            go_simp
            with_reducible rfl
          rotate_left
          · simp only [Act.put, List.setIfInBounds_toArray, List.set_cons_zero, List.set_cons_succ, i64_w, i32_w]
            rfl
          refine pure_ (i := 13) (N := (some 43)) (v := ?_) (a' := ?_) #[true, true, true, true, true, false, true, true, true, true, false, true, true, true, false, false, false, false, false, false, false, false] rfl rfl (any_of HT_.out (by kernel_rfl)) (fun _ _ _ h => h) (Or.inl ⟨by rfl, ?_⟩) ?_ ?_
          rotate_left
          · intro w'
            go_simp
            with_reducible rfl
          rotate_left
          · simp only [Act.put, List.setIfInBounds_toArray, List.set_cons_zero, List.set_cons_succ, i64_w, i32_w]
            rfl
          refine pure_ (i := 14) (N := (some 44)) (v := ?_) (a' := ?_) #[true, true, true, true, true, false, true, true, true, true, false, true, true, true, true, false, false, false, false, false, false, false] rfl rfl (any_of HT_.out (by kernel_rfl)) (fun _ _ _ h => h) (Or.inl ⟨by rfl, ?_⟩) ?_ ?_
          rotate_left
          · intro w'
            go_simp
            with_reducible rfl
          rotate_left
          · simp only [Act.put, List.setIfInBounds_toArray, List.set_cons_zero, List.set_cons_succ, i64_w, i32_w]
            rfl
          refine pure_ (i := 16) (N := (some 46)) (v := ?_) (a' := ?_) #[true, true, true, true, true, false, true, true, true, true, false, true, true, true, true, false, true, false, false, false, false, false] rfl rfl (any_of HT_.out (by kernel_rfl)) (fun _ _ _ h => h) (Or.inl ⟨by rfl, ?_⟩) ?_ ?_
          rotate_left
          · intro w'
            go_simp
            with_reducible rfl
          rotate_left
          · simp only [Act.put, List.setIfInBounds_toArray, List.set_cons_zero, List.set_cons_succ, i64_w, i32_w]
            rfl
          refine pure_ (i := 17) (N := (some 47)) (v := ?_) (a' := ?_) #[true, true, true, true, true, false, true, true, true, true, false, true, true, true, true, false, true, true, false, false, false, false] rfl rfl (any_of HT_.out (by kernel_rfl)) (fun _ _ _ h => h) (Or.inl ⟨by rfl, ?_⟩) ?_ ?_
          rotate_left
          · intro w'
            go_simp
            with_reducible rfl
          rotate_left
          · simp only [Act.put, List.setIfInBounds_toArray, List.set_cons_zero, List.set_cons_succ, i64_w, i32_w]
            rfl
          refine pure_ (i := 18) (N := (some 48)) (v := ?_) (a' := ?_) #[true, true, true, true, true, false, true, true, true, true, false, true, true, true, true, false, true, true, true, false, false, false] rfl rfl (any_of HT_.out (by kernel_rfl)) (fun _ _ _ h => h) (Or.inl ⟨by rfl, ?_⟩) ?_ ?_
          rotate_left
          · intro w'
            go_simp
            with_reducible rfl
          rotate_left
          · simp only [Act.put, List.setIfInBounds_toArray, List.set_cons_zero, List.set_cons_succ, i64_w, i32_w]
            rfl
          refine pure_ (i := 19) (N := (some 49)) (v := ?_) (a' := ?_) #[true, true, true, true, true, false, true, true, true, true, false, true, true, true, true, false, true, true, true, true, false, false] rfl rfl (any_of HT_.out (by kernel_rfl)) (fun _ _ _ h => h) (Or.inl ⟨by rfl, ?_⟩) ?_ ?_
          rotate_left
          · intro w'
            go_simp
            with_reducible rfl
          rotate_left
          · simp only [Act.put, List.setIfInBounds_toArray, List.set_cons_zero, List.set_cons_succ, i64_w, i32_w]
            rfl
          refine take_ (i := 5) (N := (some 35)) (v := ?_) (a' := ?_) #[true, true, true, true, true, true, true, true, true, true, false, true, true, true, true, false, true, true, true, true, false, false] rfl rfl (take_ofW HT_.out HW_.out (by kernel_rfl)) (fun _ _ _ h => h) (Or.inl ⟨by rfl, ?_⟩) hHeld ?_ ?_
          rotate_left
          · rintro w' ⟨s0, s1, s2, s3⟩
            go_simp
            with_reducible rfl
          rotate_left
          · simp only [Act.put, List.setIfInBounds_toArray, List.set_cons_zero, List.set_cons_succ, i64_w, i32_w]
            rfl
          refine take_ (i := 10) (N := (some 40)) (v := ?_) (a' := ?_) #[true, true, true, true, true, true, true, true, true, true, true, true, true, true, true, false, true, true, true, true, false, false] rfl rfl (take_ofW HT_.out HW_.out (by kernel_rfl)) (fun _ _ _ h => h) (Or.inl ⟨by rfl, ?_⟩) hHeld ?_ ?_
          rotate_left
          · rintro w' ⟨s0, s1, s2, s3⟩
            go_simp
            with_reducible rfl
          rotate_left
          · simp only [Act.put, List.setIfInBounds_toArray, List.set_cons_zero, List.set_cons_succ, i64_w, i32_w]
            rfl
          refine take_ (i := 15) (N := (some 45)) (v := ?_) (a' := ?_) #[true, true, true, true, true, true, true, true, true, true, true, true, true, true, true, true, true, true, true, true, false, false] rfl rfl (take_ofW HT_.out HW_.out (by kernel_rfl)) (fun _ _ _ h => h) (Or.inl ⟨by rfl, ?_⟩) hHeld ?_ ?_
          rotate_left
          · rintro w' ⟨s0, s1, s2, s3⟩
            go_simp
            with_reducible rfl
          rotate_left
          · simp only [Act.put, List.setIfInBounds_toArray, List.set_cons_zero, List.set_cons_succ, i64_w, i32_w]
            rfl
          refine take_ (i := 20) (N := (some 50)) (v := ?_) (a' := ?_) #[true, true, true, true, true, true, true, true, true, true, true, true, true, true, true, true, true, true, true, true, true, false] rfl rfl (take_ofW HT_.out HW_.out (by kernel_rfl)) (fun _ _ _ h => h) (Or.inl ⟨by rfl, ?_⟩) hHeld ?_ ?_
          rotate_left
          · rintro w' ⟨s0, s1, s2, s3⟩
            go_simp
            with_reducible rfl
          rotate_left
          · simp only [Act.put, List.setIfInBounds_toArray, List.set_cons_zero, List.set_cons_succ, i64_w, i32_w]
            rfl
          refine last_ (i := 21) (N := (some 51)) #[true, true, true, true, true, true, true, true, true, true, true, true, true, true, true, true, true, true, true, true, true, true] rfl rfl (one_of HT_.out (by kernel_rfl)) (by decide) (fun K hK => ?_)
          refine goes_ Tryd.func12 (by kernel_rfl) rfl #[.pointer (some ⟨w2.heap.size, 0, none⟩), .int .i64 x.f0, .int .i64 x.f1, .string x.f2, .slice A3 x.f3.length c3] (by rfl) rfl rfl (by (try simp only [List.map_toArray, List.map_cons, List.map_nil]); first | done | rfl) ?_
          refine (add_calls w2.heap.size v seed acc x.f0 x.f1 x.f2 A3 c3 x.f3 _ HCs.out (Kd.C_below HC3.out HBs.out) (HT2.out.below HBs.out) (by have := HXS.out.2.1; omega) (by have := HAL.out; omega) (fun s hs => by have := HXS.out.2.2 s hs; omega) (by have := HXS.out.1; omega) (fun j hj => by have h1 := blk_lt HCs.out.blk; show j ≠ _; omega) HBs.out.size).mono ?_
          rintro e W8 ⟨⟨v8, rfl, hR8⟩, hF8, v9, hC9, hat9⟩
          refine ⟨entV (addE seed acc x.f0 x.f1 x.f2 x.f3).1 v8, rfl, ?_⟩
          have HBa := Aside0.mk (HBs.out.trans (hF8.toBelow (B := w2.heap.size) HBs.out.size (fun j hj => (HCs.out.ch_lt j hj).2)))
          have HCa := Aside0.mk hC9
          clear hF8 hC9 hat9 hR8
          refine hK.out _ _ ?_
          clear hK K
          refine norm_ (a' := ?_) ?_ ?_
          rotate_left
          · show Act.put _ (some 51) _ = _
            simp only [Act.put, List.setIfInBounds_toArray, List.set_cons_zero, List.set_cons_succ, i64_w, i32_w]
            rfl
          refine done_ (done_of HT_.out (by kernel_rfl)) ?_
          go_wp2
          go_roundw
          case rel => exact ⟨k + 1, v9, by go_num, by omega, ⟨by rw [HA.out]; exact HCa.out⟩, HBa⟩
          case measure => simp [intOf]; omega
      · have hke : k = es.length := by omega
        subst hke
        rw [List.take_length] at HCr
        obtain ⟨u, rfl⟩ : ∃ u : Nat, seed = u := ⟨seed.toNat, by have := HS.out; omega⟩
        have hu : Aside0 (u < 18446744073709551616) := ⟨by have := HS.out; omega⟩
        have HDL : Aside0 ((adds u [] es).length ≤ 31) := ⟨by have h1 := adds_len u es []; have h2 := HLe.out; simp at h1; omega⟩
        have HDR := Aside0.mk (adds_right u es [] trivial)
        obtain ⟨dn, hdn⟩ : ∃ dn, dn = adds u [] es := ⟨_, rfl⟩
        rw [← hdn] at HCr HDL HDR
        clear hdn
        have HDF := Aside0.mk (right_fine u dn [] HDR.out)
        go_wp2_with fail
        refine (encode_calls w2.heap.size v u dn _ HCr.out hu.out HDF.out (by have := HDL.out; omega) (HT2.out.below HBr.out)).mono ?_
        rintro e w4 ⟨A4, c4, rfl, hc4, hr4, hb4⟩
        have HB4 := Aside0.mk (HBr.out.trans (hb4.mono HBr.out.size))
        have HC4 := Aside0.mk (HCr.out.below hb4)
        have HR4 := Aside0.mk hr4
        have HLc := Aside0.mk hc4
        have hz := encB_size u dn hu.out HDF.out HDL.out
        have HZ := Aside0.mk hz
        clear hb4 hr4 hc4 HBr HCr
        obtain ⟨bz, hbz⟩ : ∃ bz, bz = encB u dn := ⟨_, rfl⟩
        rw [← hbz] at HR4 HLc HZ ⊢
        have HBZ := Aside0.mk hbz
        clear hbz hz
        have HFin := Aside0.mk (fun (W : World) (h : Below w4.heap.size w4 W) => HB2.out.trans ((HB4.out.trans (h.mono HB4.out.size)).mono HB2.out.size))
        by_cases h0 : cut < 0
        · have hb0 : decide (cut < 0) = true := decide_eq_true h0
          go_wp2
          go_ret
          exact ⟨rfl, HFin.out _ (Below.refl _ _)⟩
        · by_cases h1 : (bz.size : Int) < cut
          · go_wp2
            go_ret
            exact ⟨rfl, HFin.out _ (Below.refl _ _)⟩
          · obtain ⟨p, hp, hps⟩ : ∃ p : ByteArray, p.data.toList = bz.data.toList.take cut.toNat ∧ p.size = cut.toNat := by
              refine ⟨⟨(bz.data.toList.take cut.toNat).toArray⟩, by simp, ?_⟩
              have hl : bz.data.toList.length = bz.size := by simp
              show (List.toArray _).size = _
              rw [List.size_toArray, List.length_take]; omega
            obtain rfl : cut = (p.size : Int) := by omega
            rw [Int.toNat_natCast] at hp
            have HPd := Aside0.mk hp
            have hpz : p.size ≤ bz.size := by omega
            have hzb := HZ.out
            clear hps hp h0 h1
            have hpos : 0 < bz.size := by
              have h2 : bz.data.toList.length = bz.size := by simp
              rw [← h2, HBZ.out, encB_data]; simp [flat]; omega
            obtain ⟨ad, rfl, _⟩ := HR4.out.2.2 hpos
            have hcap : bz.size ≤ c4 := HLc.out
            go_wp2_with fail
            go_loop [10, 11] (fun t i => ∃ k : Nat, i = .int .i64 k ∧ k ≤ p.size ∧ t = .int .i64 (tens bz k)) (fun _ i => p.size - (intOf i).toNat)
            case atStart => exact ⟨0, rfl, Nat.zero_le _, rfl⟩
            case round =>
              obtain ⟨k, rfl, hk, rfl⟩ := hrel
              have htl := tens_le bz k
              by_cases hlt : k < p.size
              · obtain ⟨ad', e, hcell⟩ := HR4.out.at_ (k : Int) (by omega) (by omega)
                obtain rfl : ad = ad' := by injection e
                rw [rd_bytesOf, Int.toNat_natCast] at hcell
                have HTs := Aside0.mk (tens_succ bz k (by omega))
                obtain ⟨cb, hcb⟩ : ∃ cb, cb = bt bz (k : Int) := ⟨_, rfl⟩
                rw [← hcb] at hcell HTs
                clear hcb e
                by_cases h10 : cb = 10
                · have hbb : (cb == 10) = true := by simp [h10]
                  have HTs2 : Aside0 (tens bz (k + 1) = tens bz k + 1) := ⟨by rw [HTs.out, if_pos h10]⟩
                  clear h10
                  go_wp2
                  go_round
                  case rel => exact ⟨k + 1, by go_num, by omega, by rw [HTs2.out]; go_num⟩
                  case measure => simp [intOf]; omega
                · have hbb : (cb == 10) = false := by simp [h10]
                  have HTs2 : Aside0 (tens bz (k + 1) = tens bz k) := ⟨by rw [HTs.out, if_neg h10]; rfl⟩
                  clear h10
                  go_wp2
                  go_round
                  case rel => exact ⟨k + 1, by go_num, by omega, by rw [HTs2.out]⟩
                  case measure => simp [intOf]; omega
              · obtain rfl : k = p.size := by omega
                have HRp : Aside0 (ReadsInt w4 .u8 (some ad) p.size (bytesOf p)) := ⟨by
                  have h2 := HR4.out.take_ p.size hpz
                  have h3 : bytesOf p = (bytesOf bz).take p.size := by unfold bytesOf; rw [HPd.out, List.map_take]
                  rw [h3]; exact h2⟩
                have HTc : Aside0 (tens bz p.size = p.data.toList.count 10) := ⟨by unfold tens; rw [← HPd.out]⟩
                go_wp2_with fail
                refine (decode_calls (some ad) c4 p w4 HRp.out (by omega) (HE2.out.below HB4.out)).mono ?_
                rintro e w5 ⟨hd, hb5⟩
                have HB5 := Aside0.mk hb5
                have hcut := decB_cut u hu.out dn HDR.out p.size (by rw [← HBZ.out]; exact hpz) p (by rw [← HBZ.out]; exact HPd.out)
                rw [← HBZ.out] at hcut
                have hcells : ∀ q : Nat, 0 < p.size → q = p.size - 1 → w5.cell? (ad.add q) = some (.int .u8 (bt bz (q : Int))) := fun q hq e => by
                  obtain ⟨ad', e2, hcell⟩ := HR4.out.at_ (q : Int) (by omega) (by omega)
                  obtain rfl : ad = ad' := by injection e2
                  rw [rd_bytesOf, Int.toNat_natCast] at hcell
                  exact pw_cell_below hb5 hcell
                rcases hcut with ⟨hq, hdec⟩ | ⟨hz0, h10, j, hj, hcnt, hdec⟩
                · rw [hdec] at hd
                  obtain rfl : e = .returned (.tuple #[.pointer none, .int .i64 (p.data.toList.count 10 : Nat), .int .i64 (3 : Nat)]) := hd
                  rw [← HTc.out]
                  clear hdec hb5
                  by_cases hz0 : p.size = 0
                  · have hzb0 : ((p.size : Int) == 0) = true := by simp [hz0]
                    clear hcells hq hz0
                    go_wp2
                    go_ret
                    exact ⟨rfl, HFin.out _ HB5.out⟩
                  · have hzb0 : ((p.size : Int) == 0) = false := by simp [hz0]
                    have hcell := hcells (p.size - 1) (by omega) rfl
                    have hne : bt bz ((p.size - 1 : Nat) : Int) ≠ 10 := by
                      rcases hq with h | h
                      · exact absurd h hz0
                      · exact fun e => h ((bt_ten bz (p.size - 1) (by omega)).2 e)
                    obtain ⟨cb, hcb⟩ : ∃ cb, cb = bt bz ((p.size - 1 : Nat) : Int) := ⟨_, rfl⟩
                    rw [← hcb] at hcell hne
                    have hnb : (cb != 10) = true := by simp [hne]
                    have hp1 : 1 ≤ p.size := by omega
                    clear hcells hq hz0 hcb hne
                    go_wp2
                    go_ret
                    exact ⟨rfl, HFin.out _ HB5.out⟩
                · rw [hdec] at hd
                  obtain ⟨g, v5, rfl, hC5⟩ : ∃ g v, e = .returned (.tuple #[.pointer (some ⟨g, 0, none⟩), .int .i64 (j + 1 : Nat), .int .i64 (0 : Nat)]) ∧ Chain w4.heap.size (nb g) w5 g v u (dn.take j) := hd
                  obtain ⟨dj, hdj⟩ : ∃ dj, dj = dn.take j := ⟨_, rfl⟩
                  have HDJ := Aside0.mk hdj
                  rw [← hdj] at hC5
                  have htj : tens bz p.size = j + 1 := by rw [HTc.out, hcnt]
                  rw [htj]
                  have HC5 := Aside0.mk hC5
                  have HJ := Aside0.mk hj
                  have HDL := HDL
                  have hzb0 : ((p.size : Int) == 0) = false := beq_eq_false_iff_ne.2 (by omega)
                  have hcell := hcells (p.size - 1) (by omega) rfl
                  have hne : bt bz ((p.size - 1 : Nat) : Int) = 10 := (bt_ten bz (p.size - 1) (by omega)).1 h10
                  obtain ⟨cb, hcb⟩ : ∃ cb, cb = bt bz ((p.size - 1 : Nat) : Int) := ⟨_, rfl⟩
                  rw [← hcb] at hcell hne
                  have hnb : (cb != 10) = false := by simp [hne]
                  have hp1 : 1 ≤ p.size := by omega
                  have hj31 : j ≤ 31 := by have := HDL.out; omega
                  have HDt : Aside0 (∀ x ∈ dj, x.f3.length ≤ 1000000) := ⟨fun z hz => by rw [hdj] at hz; have := mayE_parts (HDF.out z (List.mem_of_mem_take hz)).1; omega⟩
                  have HDi : Aside0 (∀ x ∈ dn, x.f3.length ≤ 1000000) := ⟨fun z hz => by have := mayE_parts (HDF.out z hz).1; omega⟩
                  have htl2 : dj.length = j := by rw [hdj, List.length_take]; omega
                  have HTL := Aside0.mk htl2
                  have HCc := Aside0.mk (HC4.out.below hb5)
                  clear hdj hcells h10 hcb hne hC5 hdec hb5 hcnt htj htl htl2 hz0 hj
                  go_wp2_with fail
                  refine (entries_calls g v5 u dj w5 HC5.out (by rw [HTL.out]; omega) HDt.out).mono ?_
                  rintro e w6 ⟨v6, rfl, hR6, hb6⟩
                  obtain ⟨A6, c6, rfl, _, hC6⟩ := Kd.R_reads hR6
                  have HC6 := Aside0.mk hC6
                  have HB6 := Aside0.mk (HB5.out.trans (hb6.mono HB5.out.size))
                  have HCc6 := Aside0.mk (HCc.out.below hb6)
                  clear hR6 hC6 hb6
                  go_wp2_with fail
                  refine (told_calls A6 c6 dj w6 HC6.out (by rw [HTL.out]; omega)).mono ?_
                  rintro e w7 ⟨A7, c7, rfl, _, hC7, hb7⟩
                  have HC7 := Aside0.mk hC7
                  have HB7 := Aside0.mk (HB6.out.trans (hb7.mono HB6.out.size))
                  have HCc7 := Aside0.mk (HCc6.out.below hb7)
                  clear hC7 hb7
                  go_wp2_with fail
                  refine (entries_calls w2.heap.size v u dn w7 HCc7.out (by have := HDL.out; omega) HDi.out).mono ?_
                  rintro e w8 ⟨v8, rfl, hR8, hb8⟩
                  obtain ⟨A8, c8, rfl, hlc8, hC8⟩ := Kd.R_reads hR8
                  have HC8 : Aside0 (Kd.C k30 w8 A8 j dj) := ⟨by have h := C_take hC8 j HJ.out; rw [← HDJ.out, HTL.out] at h; exact h⟩
                  have HB8 := Aside0.mk (HB7.out.trans (hb8.mono HB7.out.size))
                  have HC7b := Aside0.mk (Kd.C_below HC7.out hb8)
                  have hjd : j ≤ dn.length := HJ.out
                  have hdl : dn.length ≤ 31 := HDL.out
                  have hA8 : A8 = none → dn.length = 0 ∧ c8 = 0 := fun e => by subst e; exact R_none hR8
                  clear hR8 hC8 hb8
                  cases A8 with
                  | none =>
                    obtain ⟨hd0, rfl⟩ := hA8 rfl
                    obtain rfl : j = 0 := by omega
                    have HD0 := Aside0.mk hd0
                    rw [hd0]
                    clear hd0 hA8
                    go_wp2_with fail
                    rw [show (Value.slice none 0 0) = .slice none dj.length 0 from by rw [HTL.out]]
                    refine (told_calls none 0 dj w8 (by rw [HTL.out]; exact HC8.out) (by rw [HTL.out]; omega)).mono ?_
                    rintro e w9 ⟨A9, c9, rfl, _, hC9, hb9⟩
                    have HC9 := Aside0.mk hC9
                    have HB9 := Aside0.mk (HB8.out.trans (hb9.mono HB8.out.size))
                    have HC7c := Aside0.mk (Kd.C_below HC7b.out hb9)
                    clear hC9 hb9
                    go_wp2_with fail
                    refine (same_calls A7 c7 A9 c9 dj w9 HC7c.out HC9.out HDt.out).mono ?_
                    rintro e wA ⟨rfl, hbA⟩
                    go_wp2
                    go_ret
                    exact ⟨rfl, HFin.out _ (HB9.out.trans (hbA.mono HB9.out.size))⟩
                  | some a8 =>
                    clear hA8
                    go_wp2_with fail
                    rw [show (Value.slice (some a8) j c8) = .slice (some a8) dj.length c8 from by rw [HTL.out]]
                    refine (told_calls (some a8) c8 dj w8 (by rw [HTL.out]; exact HC8.out) (by rw [HTL.out]; omega)).mono ?_
                    rintro e w9 ⟨A9, c9, rfl, _, hC9, hb9⟩
                    have HC9 := Aside0.mk hC9
                    have HB9 := Aside0.mk (HB8.out.trans (hb9.mono HB8.out.size))
                    have HC7c := Aside0.mk (Kd.C_below HC7b.out hb9)
                    clear hC9 hb9
                    go_wp2_with fail
                    refine (same_calls A7 c7 A9 c9 dj w9 HC7c.out HC9.out HDt.out).mono ?_
                    rintro e wA ⟨rfl, hbA⟩
                    go_wp2
                    go_ret
                    exact ⟨rfl, HFin.out _ (HB9.out.trans (hbA.mono HB9.out.size))⟩
end Go.Proofs.YtmbkmfdmpimegaaDoor
