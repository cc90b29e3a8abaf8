/-
  The chain in memory; the walks of Entry.clone, Chain.last and Chain.Add.
-/
import Derived.Test.YtmbkmfdmpimegaaDoorA3
namespace Go.Proofs.YtmbkmfdmpimegaaDoor
open Go.RowKit Go.Lib Go.Sort Go.Proofs.YtmbkmfdmpimegaaDoorW.PrintWords Go.Proofs.YtmbkmfdmpimegaaDoor.PR

/-- any block -/
def any : Nat → Prop := fun _ => True

theorem clone_row (A : Option Addr) (c : Nat) (ws : List ByteArray) (w : World) (hr : Kd.C Kd.string w A ws.length ws) (hbig : ws.length * 16 ≤ 140737488355328) :
    Calls Tryd.prog 25 #[.slice A ws.length c] w fun e w' => ∃ v', e = .returned v' ∧ Kd.string.R 9 w' w.heap.size any v' ws ∧ Below w.heap.size w w' := by
  cases A with
  | none =>
    have h0 : ws = [] := by
      cases ws with
      | nil => rfl
      | cons a l =>
        obtain ⟨ad, e, _⟩ := hr.2.2 (by simp)
        cases e
    subst h0
    refine (Tryd.slices_Clone_string_nil 0 c w).mono ?_
    rintro e w' ⟨rfl, rfl⟩
    exact ⟨_, rfl, Kd.R_nil _ _ _ _ _, Below.refl _ _⟩
  | some ad =>
    by_cases hn : ws.length = 0
    · obtain rfl : ws = [] := List.length_eq_zero_iff.1 hn
      refine (Tryd.slices_Clone_string_zero ad c w).mono ?_
      rintro e w' ⟨v', rfl, hown, _, hb⟩
      exact ⟨_, rfl, Kd.R_of_own (xs := []) hown (fun _ _ => trivial), hb⟩
    · have hs := strs_spot hr (by omega)
      obtain ⟨b, off, sp⟩ := ad
      obtain rfl : sp = none := hs
      refine (Tryd.slices_Clone_string b off ws.length c ws w (Nat.le_refl _) hbig ?_).mono ?_
      · intro j hj
        obtain ⟨ad, e, hc⟩ := strs_get hr j hj
        obtain rfl : (⟨b, off, none⟩ : Addr) = ad := by injection e
        rw [Lib.add_plain] at hc
        rw [hc, List.getD_eq_getElem?_getD, List.getElem?_eq_getElem hj]; rfl
      · rintro e w' ⟨v', rfl, hown, _, hb⟩
        rw [List.take_length] at hown
        exact ⟨_, rfl, Kd.R_of_own hown (fun _ _ => trivial), hb⟩

/-- an entry's value -/
def entV (x : S30) (v3 : Value) : Value := .agg #[.int .i64 x.f0, .int .i64 x.f1, .string x.f2, v3, .int .u64 x.f4]
/-- an entry that is handed back, its things in new memory -/
def EntRet (w : World) (x : S30) (e : Ending) (w' : World) : Prop := ∃ v3, e = .returned (entV x v3) ∧ Kd.string.R 9 w' w.heap.size any v3 x.f3

set_option maxRecDepth 100000 in
theorem entClone_calls (x : S30) (A : Option Addr) (c : Nat) (w : World) (hr : Kd.C Kd.string w A x.f3.length x.f3) (hbig : x.f3.length ≤ 1000000) :
    Calls Tryd.prog 29 #[entV x (.slice A x.f3.length c)] w fun e w' => EntRet w x e w' ∧ Below w.heap.size w w' := by
  have HR := Aside0.mk hr
  clear hr
  unfold entV
  go_enter Tryd.func29, Tryd.ntmps29
  go_wp2_with fail
  refine (clone_row A c x.f3 _ (Kd.C_below HR.out (below_alloc (below_alloc (Below.refl _ _) _) _)) (by omega)).mono ?_
  rintro e w1 ⟨v', rfl, hR, hb⟩
  obtain ⟨A1, c1, rfl⟩ := Kd.R_slice hR
  have b1 := blk_below (new_1of2 w _ _) hb
  have b2 := blk_below (new_2of2 w _ _) hb
  obtain ⟨p0, p1, p2, p3, p4, ps⟩ := five b1
  obtain ⟨q0, q1, q2, q3, q4, qs⟩ := five b2
  have f1 := blk_frozen b1
  have f2 := blk_frozen b2
  have HR1 := Aside0.mk hR
  have HB := Aside0.mk ((below_alloc (below_alloc (Below.refl w.heap.size w) _) _).trans (hb.mono (by simp; omega)))
  have B1 := Aside0.mk b1
  have B2 := Aside0.mk b2
  clear hR hb b1 b2
  go_wp2
  have B3 := blk_set (blk_set (blk_set (blk_set (blk_set (blk_far B2.out (p := ⟨w.heap.size, 3, none⟩) (by simp) (.slice A1 x.f3.length c1)) 0 (.int .i64 x.f0)) 1 (.int .i64 x.f1)) 2 (.string x.f2)) 3 (.slice A1 x.f3.length c1)) 4 (.int .u64 x.f4)
  have F := ((((((Fr.refl (fun k => k = w.heap.size ∨ k = w.heap.size + 1) w1).setCell (p := ⟨w.heap.size, 3, none⟩) (.inl (.inl rfl)) (.slice A1 x.f3.length c1)).setCell (p := ⟨w.heap.size + 1, 0, none⟩) (.inl (.inr rfl)) (.int .i64 x.f0)).setCell (p := ⟨w.heap.size + 1, 1, none⟩) (.inl (.inr rfl)) (.int .i64 x.f1)).setCell (p := ⟨w.heap.size + 1, 2, none⟩) (.inl (.inr rfl)) (.string x.f2)).setCell (p := ⟨w.heap.size + 1, 3, none⟩) (.inl (.inr rfl)) (.slice A1 x.f3.length c1)).setCell (p := ⟨w.heap.size + 1, 4, none⟩) (.inl (.inr rfl)) (.int .u64 x.f4)
  refine bodyPost_ret (v := entV x (.slice A1 x.f3.length c1)) (results_cell_row Tryd.results29 _ _ (w.heap.size + 1) 33 _ (0, 0) _ rfl B3 Tryd.underlying33 rfl (by kernel_rfl)) rfl ⟨⟨_, rfl, ?_⟩, ?_⟩
  · refine Kd.R_lower (R_fr HR1.out F ?_) (by simp; omega)
    intro k hk _ _
    simp at hk
    omega
  · exact HB.out.trans (F.toBelow (by omega) (fun k hk => by omega))
end Go.Proofs.YtmbkmfdmpimegaaDoor
