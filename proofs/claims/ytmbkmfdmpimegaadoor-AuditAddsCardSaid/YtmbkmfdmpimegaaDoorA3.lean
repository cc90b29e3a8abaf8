/-
  The walks of Entry.sum and of the chain's methods.
-/
import Derived.Test.YtmbkmfdmpimegaaDoorA0
import Derived.Test.YtmbkmfdmpimegaaDoorA2
import Derived.Lib.ItoaLen
namespace Go.Proofs.YtmbkmfdmpimegaaDoor
open Go.RowKit Go.Lib Go.Sort Go.Proofs.YtmbkmfdmpimegaaDoorW.PrintWords Go.Proofs.YtmbkmfdmpimegaaDoor.PR

/-- words that are gathered in a captured variable, block B: made since w0; what lay in w0 is as it was but for B -/
structure Words (w0 w : World) (B : Nat) (xs : List ByteArray) : Prop where
  ex : ∃ v, w.heap[B]? = some (.cells #[v] 28 (0, 0)) ∧ w.ownsRow w0.heap.size 9 1 v xs.length (encs Value.string xs)
  fr : Fr (one B) w0 w

set_option maxRecDepth 100000 in
theorem put_calls (B : Nat) (xs ls : List ByteArray) (A : Option Addr) (c : Nat) (w0 w : World) (hW : Words w0 w B xs) (hr : Kd.C Kd.string w A ls.length ls) (hl : (xs.length + ls.length) * 16 ≤ 140737488355328) :
    Calls Tryd.prog 41 #[.slice A ls.length c, .pointer (some ⟨B, 0, none⟩)] w fun e w' => e = .returned (.tuple #[]) ∧ Words w0 w' B (xs ++ ls) := by
  obtain ⟨⟨v, hv, hown⟩, hfr⟩ := hW
  have c1 := cell_of_one hv
  have f1 := free_of_one hv
  have HR := Aside0.mk (Kd.reads_of_C (d := ByteArray.empty) hr)
  have HO := Aside0.mk hown
  have HV := Aside0.mk hv
  have HF := Aside0.mk hfr
  have HL := Aside0.mk hl
  clear hr hown hv hfr hl
  go_enter Tryd.func41, Tryd.ntmps41
  go_wp2_with (at_builtin; refine print_append_row_of Value.string ByteArray.empty w0.heap.size rfl _ _ 28 9 (.string ⟨#[]⟩) 16 rfl Tryd.underlying28 info9 rfl (by decide) (fun _ => rfl) v xs ls A _ _ rfl rfl HO.out HR.out (Below.refl _ _) HF.out.size HL.out ?_)
  intro v1 w1 hown1 hb1 hg hat
  have hne : some B ≠ v.ownBlock := own_ne HO.out HV.out (by decide)
  have hv1 := blk_grown HV.out hg hne
  have c2 := cell_of_one hv1
  have f2 := free_of_one hv1
  have HF1 := Aside0.mk (HF.out.grown hg (fun k hk => .inr (own_base HO.out k hk)))
  have HO1 := Aside0.mk hown1
  have HV1 := Aside0.mk hv1
  clear hown1 hv1 hb1 hat hg c1 f1
  obtain ⟨A1, c1', rfl⟩ := own_slice HO1.out
  go_wp2
  go_end0
  exact ⟨rfl, ⟨_, one_setCell HV1.out, by rw [List.length_append]; exact own_setCell HO1.out (own_ne (t := 28) HO1.out HV1.out (by decide)) _⟩, HF1.out.setCell (p := ⟨B, 0, none⟩) (.inl rfl) _⟩

theorem strs_lit (W : World) (xs : List ByteArray) (hm : xs.length ≤ 9223372036854775807) : Kd.C Kd.string (W.alloc (.cells (encs Value.string xs).toArray 9)) (some ⟨W.heap.size, 0, none⟩) xs.length xs := by
  obtain ⟨A, c, he, _, hr⟩ := own_reads_of_le (d := ByteArray.empty) (own_lit_of (enc := Value.string) W 0 9 xs (Nat.zero_le _) hm)
  have e : A = some ⟨W.heap.size, 0, none⟩ := by injection he with h1 _ _; exact h1.symm
  subst e
  exact Kd.C_of_reads hr
theorem itoaB_size (n : Int) (h0 : -9223372036854775808 ≤ n) (h1 : n ≤ 9223372036854775807) : (itoaB n).size ≤ 9223372036854775807 := by
  have h := Lib.itoa_length_le n h0 h1
  have e : (itoaB n).size = (Lib.itoa n).length := by simp [itoaB, ByteArray.size]
  omega
def sumE (ahead : Int) (o n : Int) (p : ByteArray) (is : List ByteArray) : Int := hashI ahead ([itoaB o, itoaB n, p] ++ is)

set_option maxRecDepth 100000 in
set_option maxHeartbeats 2000000 in
theorem sumE_calls (o n : Int) (p : ByteArray) (A : Option Addr) (c : Nat) (is : List ByteArray) (s ahead : Int) (w : World) (hr : Kd.C Kd.string w A is.length is) (ht : Tab w)
    (ho0 : -9223372036854775808 ≤ o) (ho1 : o ≤ 9223372036854775807) (hn0 : -9223372036854775808 ≤ n) (hn1 : n ≤ 9223372036854775807) (hl : is.length ≤ 1000) (hsz : ∀ s ∈ is, s.size ≤ 9223372036854775807) (hp : p.size ≤ 9223372036854775807) :
    Calls Tryd.prog 27 #[.agg #[.int .i64 o, .int .i64 n, .string p, .slice A is.length c, .int .u64 s], .int .u64 ahead] w fun e w' => e = .returned (.int .u64 (sumE ahead o n p is)) ∧ Below w.heap.size w w' := by
  have HR := Aside0.mk hr
  have HS := Aside0.mk hsz
  have HT := Aside0.mk ht
  clear hr hsz ht
  go_enter Tryd.func27, Tryd.ntmps27
  have H0 := Aside0.mk ho0
  have H1 := Aside0.mk ho1
  have H2 := Aside0.mk hn0
  have H3 := Aside0.mk hn1
  clear ho0 ho1 hn0 hn1
  go_wp2
  obtain ⟨W0, e0⟩ : ∃ W0, W0 = (w.alloc (.cells #[.int .i64 o, .int .i64 n, .string p, .slice A is.length c, .int .u64 s] 33)).alloc (.cells #[.slice none 0 0] 28) := ⟨_, rfl⟩
  have hS0 : W0.cell? ⟨w.heap.size, 0, none⟩ = some (.int .i64 o) ∧ W0.cell? ⟨w.heap.size, 1, none⟩ = some (.int .i64 n) ∧ W0.cell? ⟨w.heap.size, 2, none⟩ = some (.string p) ∧ W0.cell? ⟨w.heap.size, 3, none⟩ = some (.slice A is.length c) := by
    subst e0
    exact ⟨by simp, by simp, by simp, by simp⟩
  have hw0 : Below w.heap.size w W0 := by
    subst e0
    exact below_alloc (below_alloc (Below.refl _ _) _) _
  have hv0 : W0.heap[w.heap.size + 1]? = some (.cells #[.slice none 0 0] 28 (0, 0)) := by
    subst e0
    have := heap_alloc_new (w.alloc (.cells #[.int .i64 o, .int .i64 n, .string p, .slice A is.length c, .int .u64 s] 33)) (.cells #[.slice none 0 0] 28)
    simpa using this
  rw [← e0]
  clear e0
  obtain ⟨c0, c1, c2, c3⟩ := hS0
  have keepS : ∀ {W : World}, Fr (one (w.heap.size + 1)) W0 W → (W.cell? ⟨w.heap.size, 0, none⟩ = some (.int .i64 o) ∧ W.cell? ⟨w.heap.size, 1, none⟩ = some (.int .i64 n) ∧ W.cell? ⟨w.heap.size, 2, none⟩ = some (.string p)) :=
    fun h => ⟨h.cell c0 (by simp [one]), h.cell c1 (by simp [one]), h.cell c2 (by simp [one])⟩
  have HQ0 := Aside0.mk (below_drew (Below.refl W0.heap.size W0))
  go_region_held3 (fun W => W.cell? ⟨w.heap.size, 0, none⟩ = some (.int .i64 o) ∧ W.cell? ⟨w.heap.size, 1, none⟩ = some (.int .i64 n) ∧ W.cell? ⟨w.heap.size, 2, none⟩ = some (.string p)) (first | exact keepS (Fr.of_below (‹Aside0 (Below W0.heap.size W0 _)›).out _) | exact keepS ((Fr.of_below (‹Aside0 (Below W0.heap.size W0 _)›).out _).alloc _) | exact keepS (‹Words W0 _ _ _›).fr) (first | (go_at_call 42; refine (itoa_calls _ (by first | exact H0.out | exact H2.out) (by first | exact H1.out | exact H3.out) _ (HT.out.below (hw0.trans ((‹Aside0 (Below W0.heap.size W0 _)›).out.mono hw0.size)))).mono ?_; (rintro e w' ⟨rfl, hb⟩); have HQ1 := Aside0.mk ((‹Aside0 (Below W0.heap.size W0 _)›).out.trans (hb.mono (‹Aside0 (Below W0.heap.size W0 _)›).out.size)); clear hb) | (go_at_call 41; refine (put_calls (w.heap.size + 1) [] [itoaB o, itoaB n, p] _ _ W0 _ ⟨⟨_, blk_below hv0 (below_alloc (‹Aside0 (Below W0.heap.size W0 _)›).out _), own_nil _ _ _ _⟩, (Fr.of_below (‹Aside0 (Below W0.heap.size W0 _)›).out _).alloc _⟩ (strs_lit _ [itoaB o, itoaB n, p] (by simp)) (by simp)).mono ?_; (rintro e w1 ⟨rfl, hW1⟩)))
  all_goals
    have hW2 := Aside0.mk (‹Words W0 _ _ _›)
    have c3' := hW2.out.fr.cell c3 (by simp [one])
    go_wp2_with fail
    refine (put_calls (w.heap.size + 1) _ is A c W0 _ hW2.out (Kd.C_below HR.out (hw0.trans ((hW2.out.fr.toBelow (B := w.heap.size) hw0.size (by simp [one]))))) (by simp; omega)).mono ?_
    rintro e w2 ⟨rfl, hW3⟩
    obtain ⟨⟨v, hv, hown⟩, hfr⟩ := hW3
    obtain ⟨A1, c1', rfl, hl1, hC⟩ := strs_of_own hown
    have cv := cell_of_one hv
    have HC := Aside0.mk hC
    have HF := Aside0.mk hfr
    clear hC hfr hown hv
    go_wp2_with fail
    refine (hash_calls ahead A1 c1' _ _ HC.out ?_).mono ?_
    · intro s hs
      simp only [List.nil_append, List.cons_append, List.mem_cons] at hs
      rcases hs with rfl | rfl | rfl | hs
      · exact itoaB_size _ H0.out H1.out
      · exact itoaB_size _ H2.out H3.out
      · exact hp
      · exact HS.out s hs
    · rintro e w3 ⟨rfl, hb⟩
      have HB := Aside0.mk ((hw0.trans (HF.out.toBelow (B := w.heap.size) hw0.size (by simp [one]))).trans (hb.mono (Nat.le_trans hw0.size HF.out.size)))
      clear hb
      go_wp2
      go_ret
      exact ⟨rfl, HB.out⟩
end Go.Proofs.YtmbkmfdmpimegaaDoor
