-- laid by print.py of the kit (own words), several laws in one
import Derived.Test.YtmmfoeckggpgdaaGreatDoorPEx0
namespace Go.Proofs.YtmmfoeckggpgdaaGreatDoor.PE
open Go.RowKit Go.Proofs.YtmmfoeckggpgdaaGreatDoorW.PrintWords Go.Proofs.YtmmfoeckggpgdaaGreatDoorW.PrintLast Go.Proofs.YtmmfoeckggpgdaaGreatDoorW.PrintMore
attribute [local go_sem] max2_int min2_int max_two min_two max_three min_three max_four min_four   -- for this text's walks alone
set_option linter.unusedVariables false
set_option linter.unusedSimpArgs false

/-! ### event_row: function 138 -/
mutual
def event_row.j0 : Nat → Int → Bool → Option (Bool × Bool × Bool × Bool × Int × Int × Bool)
  | 0, _, _ => none
  | k + 1, x4, x5 => if x5 = true then (some (true, true, false, false, 0, 0, true)) else (if x4 = 4 then (some (true, true, false, false, 1, 5, true)) else (if x4 = 7 then (event_row.j1 k x4 (x4 == 7)) else (if x4 = 8 then (event_row.j1 k x4 (x4 == 8)) else (if x4 = 9 then (event_row.j1 k x4 (x4 == 9)) else (event_row.j1 k x4 (x4 == 10))))))
def event_row.j1 : Nat → Int → Bool → Option (Bool × Bool × Bool × Bool × Int × Int × Bool)
  | 0, _, _ => none
  | k + 1, x4, x16 => if x16 = true then (some (true, false, true, false, 0, 0, true)) else (if x4 = 11 then (some (false, true, false, true, 0, 1048576, true)) else (if x4 = 12 then (some (false, true, false, false, 0, 1048576, true)) else (if x4 = 13 then (some (false, true, false, false, 0, 0, true)) else (if x4 = 14 then (some (true, false, false, false, 0, 0, true)) else (some (false, false, false, false, 0, 0, false))))))
end
def event_row.f (k : Nat) (a0 : Int) : Option (Bool × Bool × Bool × Bool × Int × Int × Bool) := if a0 = 0 then (event_row.j0 k a0 (a0 == 0)) else (if a0 = 1 then (event_row.j0 k a0 (a0 == 1)) else (if a0 = 2 then (event_row.j0 k a0 (a0 == 2)) else (if a0 = 3 then (event_row.j0 k a0 (a0 == 3)) else (if a0 = 5 then (event_row.j0 k a0 (a0 == 5)) else (event_row.j0 k a0 (a0 == 6))))))
theorem event_row.mono_l : ∀ k, (∀ y0 y1, LeO (event_row.j0 k y0 y1) (event_row.j0 (k + 1) y0 y1)) ∧ (∀ y0 y1, LeO (event_row.j1 k y0 y1) (event_row.j1 (k + 1) y0 y1))
  | 0 => ⟨fun _ _ r h => by simp [event_row.j0] at h, fun _ _ r h => by simp [event_row.j1] at h⟩
  | k + 1 => by
    obtain ⟨ih0, ih1⟩ := event_row.mono_l k
    refine ⟨?_, ?_⟩
    · intro y0 y1
      unfold event_row.j0
      repeat' first
      | (with_reducible exact ih0 _ _)
      | (with_reducible exact ih1 _ _)
      | (with_reducible exact LeO.refl _)
      | (with_reducible exact LeO.none _)
      | (with_reducible refine LeO.ite ?_ ?_)
      | (with_reducible refine LeO.bind ?_ (fun _ => ?_))
      | exact ih0 _ _
      | exact ih1 _ _
      | exact LeO.none _
      | refine LeO.ite ?_ ?_
      | refine LeO.bind ?_ (fun _ => ?_)
    · intro y0 y1
      unfold event_row.j1
      repeat' first
      | (with_reducible exact ih0 _ _)
      | (with_reducible exact ih1 _ _)
      | (with_reducible exact LeO.refl _)
      | (with_reducible exact LeO.none _)
      | (with_reducible refine LeO.ite ?_ ?_)
      | (with_reducible refine LeO.bind ?_ (fun _ => ?_))
      | exact ih0 _ _
      | exact ih1 _ _
      | exact LeO.none _
      | refine LeO.ite ?_ ?_
      | refine LeO.bind ?_ (fun _ => ?_)
theorem event_row.mono : ∀ a0 k, LeO (event_row.f k a0) (event_row.f (k + 1) a0) := by
  intro a0 k
  obtain ⟨ih0, ih1⟩ := event_row.mono_l k
  unfold event_row.f
  repeat' first
      | (with_reducible exact ih0 _ _)
      | (with_reducible exact ih1 _ _)
      | (with_reducible exact LeO.refl _)
      | (with_reducible exact LeO.none _)
      | (with_reducible refine LeO.ite ?_ ?_)
      | (with_reducible refine LeO.bind ?_ (fun _ => ?_))
      | exact ih0 _ _
      | exact ih1 _ _
      | exact LeO.none _
      | refine LeO.ite ?_ ?_
      | refine LeO.bind ?_ (fun _ => ?_)
set_option maxHeartbeats 8000000 in
set_option maxRecDepth 100000 in
theorem event_row.calls (k : Nat) (a0 : Int) (r1 : Bool) (r2 : Bool) (r3 : Bool) (r4 : Bool) (r5 : Int) (r6 : Int) (r7 : Bool) (w : World) (h : event_row.f k a0 = some (r1, r2, r3, r4, r5, r6, r7)) :
    Calls Tryz.prog 138 #[.int .i64 a0] w fun e w' => e = .returned (.tuple #[.agg #[.bool r1, .bool r2, .bool r3, .bool r4, .int .i64 r5, .int .i64 r6], .bool r7]) ∧ Below w.heap.size w w' := by
  have hu178 := Tryz.underlying178
  have HB := Aside0.mk (Below.refl w.heap.size w)
  have H : (if a0 = 0 then (event_row.j0 k a0 (a0 == 0)) else (if a0 = 1 then (event_row.j0 k a0 (a0 == 1)) else (if a0 = 2 then (event_row.j0 k a0 (a0 == 2)) else (if a0 = 3 then (event_row.j0 k a0 (a0 == 3)) else (if a0 = 5 then (event_row.j0 k a0 (a0 == 5)) else (event_row.j0 k a0 (a0 == 6))))))) = some (r1, r2, r3, r4, r5, r6, r7) := h
  clear h
  have HC2 := Aside0.mk H
  clear H
  go_enter Tryz.func138, Tryz.ntmps138
  go_upto_if 5 with (first | ((with_reducible refine gate_dst (N := 2) rfl ?_); refine box_event ?hg (N := 2) ?hd (cs := #[.bool false, .bool false, .bool false, .bool false, .int .i64 0, .int .i64 0]) (t := 178) ?hr ?_; (case hd => rfl); (case hg => rfl); (case hr => first | (go_simp; done) | (go_simp; rfl)); intro gb109 hg w3 hbox hb; have n0_ := Aside0.mk (below_step (by repeat (first | (with_reducible first | exact HB.out | apply below_alloc | apply pw_below_drewN | apply below_drew1) | exact HB.out)) hb); have n1_ := Aside0.mk (hbox); have n2_ := Aside0.mk ((by rw [hg]; exact (below_size (by repeat (first | (with_reducible first | exact HB.out | apply below_alloc | apply pw_below_drewN | apply below_drew1) | exact HB.out))) : w.heap.size ≤ gb109)); have n3_ := Aside0.mk ((by rw [hg]; exact (below_size (by repeat (first | (with_reducible first | exact HB.out | apply below_alloc | apply pw_below_drewN | apply below_drew1) | exact HB.out))) : w.heap.size ≤ gb109)); clear HB; have HB := n0_; have BK109 := n1_; have GW109 := n2_; have GE109 := n3_; clear n0_ n1_ n2_ n3_; clear hb hbox hg))
  (try simp only [Act.put, List.setIfInBounds_toArray, List.set_cons_zero, List.set_cons_succ])
  go_cut [5] (fun v5 wc => ∃ (kq : Nat) (x5_1 : Bool), v5 = .bool x5_1 ∧ Aside0 (event_row.j0 kq a0 x5_1 = some (r1, r2, r3, r4, r5, r6, r7)) ∧ Aside0 (kq ≤ k) ∧ Aside0 (wc.heap[gb109]? = some (.cells #[.bool false, .bool false, .bool false, .bool false, .int .i64 0, .int .i64 0] 178 (0, 0))) ∧ Aside0 (Below w.heap.size w wc))
  case first =>
    have H := HC2.out
    clear HC2
    by_cases c4 : a0 = 0
    · rw [if_pos c4] at H
      have c4b0 : (a0 == 0) = true := beq_iff_eq.mpr c4
      have c4b1 : (a0 != 0) = false := bne_eq_false_iff_eq.mpr c4
      clear c4
      (first | rw [c4b0] | (simp only [i64_w, i32_w]; rw [c4b0]) | skip)
      have H' := Aside0.mk H
      clear H
      go_wp2
      go_meet
      case rel => exact ⟨_, ((a0 == 0)), (by first | rfl | (simp; done) | (simp [*]; done)), H', ⟨by first | omega | exact Nat.le_refl _⟩, ⟨by (with_reducible repeat (first | refine blk_drewN ?_ _ | refine blk_drew ?_ | refine blk_alloc ?_ _)); exact BK109.out⟩, ⟨by repeat (first | (with_reducible first | exact HB.out | apply below_alloc | apply pw_below_drewN | apply below_drew1 | refine below_set ?_ GE109.out) | exact HB.out)⟩⟩
    · rw [if_neg c4] at H
      have c4b0 : (a0 == 0) = false := beq_eq_false_iff_ne.mpr c4
      have c4b1 : (a0 != 0) = true := bne_iff_ne.mpr c4
      (first | rw [c4b0] | (simp only [i64_w, i32_w]; rw [c4b0]) | skip)
      by_cases c5 : a0 = 1
      · rw [if_pos c5] at H
        have c5b0 : (a0 == 1) = true := beq_iff_eq.mpr c5
        have c5b1 : (a0 != 1) = false := bne_eq_false_iff_eq.mpr c5
        clear c5
        have H' := Aside0.mk H
        clear H
        go_wp2
        go_meet
        case rel => exact ⟨_, ((a0 == 1)), (by first | rfl | (simp; done) | (simp [*]; done)), H', ⟨by first | omega | exact Nat.le_refl _⟩, ⟨by (with_reducible repeat (first | refine blk_drewN ?_ _ | refine blk_drew ?_ | refine blk_alloc ?_ _)); exact BK109.out⟩, ⟨by repeat (first | (with_reducible first | exact HB.out | apply below_alloc | apply pw_below_drewN | apply below_drew1 | refine below_set ?_ GE109.out) | exact HB.out)⟩⟩
      · rw [if_neg c5] at H
        have c5b0 : (a0 == 1) = false := beq_eq_false_iff_ne.mpr c5
        have c5b1 : (a0 != 1) = true := bne_iff_ne.mpr c5
        by_cases c6 : a0 = 2
        · rw [if_pos c6] at H
          have c6b0 : (a0 == 2) = true := beq_iff_eq.mpr c6
          have c6b1 : (a0 != 2) = false := bne_eq_false_iff_eq.mpr c6
          clear c6
          have H' := Aside0.mk H
          clear H
          go_wp2
          go_meet
          case rel => exact ⟨_, ((a0 == 2)), (by first | rfl | (simp; done) | (simp [*]; done)), H', ⟨by first | omega | exact Nat.le_refl _⟩, ⟨by (with_reducible repeat (first | refine blk_drewN ?_ _ | refine blk_drew ?_ | refine blk_alloc ?_ _)); exact BK109.out⟩, ⟨by repeat (first | (with_reducible first | exact HB.out | apply below_alloc | apply pw_below_drewN | apply below_drew1 | refine below_set ?_ GE109.out) | exact HB.out)⟩⟩
        · rw [if_neg c6] at H
          have c6b0 : (a0 == 2) = false := beq_eq_false_iff_ne.mpr c6
          have c6b1 : (a0 != 2) = true := bne_iff_ne.mpr c6
          by_cases c7 : a0 = 3
          · rw [if_pos c7] at H
            have c7b0 : (a0 == 3) = true := beq_iff_eq.mpr c7
            have c7b1 : (a0 != 3) = false := bne_eq_false_iff_eq.mpr c7
            clear c7
            have H' := Aside0.mk H
            clear H
            go_wp2
            go_meet
            case rel => exact ⟨_, ((a0 == 3)), (by first | rfl | (simp; done) | (simp [*]; done)), H', ⟨by first | omega | exact Nat.le_refl _⟩, ⟨by (with_reducible repeat (first | refine blk_drewN ?_ _ | refine blk_drew ?_ | refine blk_alloc ?_ _)); exact BK109.out⟩, ⟨by repeat (first | (with_reducible first | exact HB.out | apply below_alloc | apply pw_below_drewN | apply below_drew1 | refine below_set ?_ GE109.out) | exact HB.out)⟩⟩
          · rw [if_neg c7] at H
            have c7b0 : (a0 == 3) = false := beq_eq_false_iff_ne.mpr c7
            have c7b1 : (a0 != 3) = true := bne_iff_ne.mpr c7
            by_cases c8 : a0 = 5
            · rw [if_pos c8] at H
              have c8b0 : (a0 == 5) = true := beq_iff_eq.mpr c8
              have c8b1 : (a0 != 5) = false := bne_eq_false_iff_eq.mpr c8
              clear c8
              have H' := Aside0.mk H
              clear H
              go_wp2
              go_meet
              case rel => exact ⟨_, ((a0 == 5)), (by first | rfl | (simp; done) | (simp [*]; done)), H', ⟨by first | omega | exact Nat.le_refl _⟩, ⟨by (with_reducible repeat (first | refine blk_drewN ?_ _ | refine blk_drew ?_ | refine blk_alloc ?_ _)); exact BK109.out⟩, ⟨by repeat (first | (with_reducible first | exact HB.out | apply below_alloc | apply pw_below_drewN | apply below_drew1 | refine below_set ?_ GE109.out) | exact HB.out)⟩⟩
            · rw [if_neg c8] at H
              have c8b0 : (a0 == 5) = false := beq_eq_false_iff_ne.mpr c8
              have c8b1 : (a0 != 5) = true := bne_iff_ne.mpr c8
              have H' := Aside0.mk H
              clear H
              go_wp2
              go_meet
              case rel => exact ⟨_, ((a0 == 6)), (by first | rfl | (simp; done) | (simp [*]; done)), H', ⟨by first | omega | exact Nat.le_refl _⟩, ⟨by (with_reducible repeat (first | refine blk_drewN ?_ _ | refine blk_drew ?_ | refine blk_alloc ?_ _)); exact BK109.out⟩, ⟨by repeat (first | (with_reducible first | exact HB.out | apply below_alloc | apply pw_below_drewN | apply below_drew1 | refine below_set ?_ GE109.out) | exact HB.out)⟩⟩
  case rest =>
    clear HC2
    try clear c1
    try clear p2
    try clear c4
    try clear c4b0
    try clear c4b1
    try clear c5
    try clear c5b0
    try clear c5b1
    try clear c6
    try clear c6b0
    try clear c6b1
    try clear c7
    try clear c7b0
    try clear c7b1
    try clear c8
    try clear c8b0
    try clear c8b1
    obtain ⟨kq, x5_1, rfl, HA, HJ1, BK109, HB⟩ := hcut
    cases kq with
    | zero => exact absurd HA.out (by simp [event_row.j0])
    | succ kj1 =>
      have H := HA.out
      clear HA
      simp only [event_row.j0] at H
      by_cases c9 : x5_1 = true
      · subst c9
        have H1 : (some (true, true, false, false, 0, 0, true)) = some (r1, r2, r3, r4, r5, r6, r7) := by rw [if_pos rfl] at H; exact H
        clear H
        have H := H1
        clear H1
        simp only [Option.some.injEq, Prod.mk.injEq] at H
        obtain ⟨rfl, rfl, rfl, rfl, rfl, rfl, rfl⟩ := H
        have hcz10_0 : wc.cell? ⟨gb109, 0, none⟩ = some (.bool false) := (blk_cell BK109.out 0).trans rfl
        have hcz10_1 : wc.cell? ⟨gb109, 1, none⟩ = some (.bool false) := (blk_cell BK109.out 1).trans rfl
        have hcz10_2 : wc.cell? ⟨gb109, 2, none⟩ = some (.bool false) := (blk_cell BK109.out 2).trans rfl
        have hcz10_3 : wc.cell? ⟨gb109, 3, none⟩ = some (.bool false) := (blk_cell BK109.out 3).trans rfl
        have hcz10_4 : wc.cell? ⟨gb109, 4, none⟩ = some (.int .i64 0) := (blk_cell BK109.out 4).trans rfl
        have hcz10_5 : wc.cell? ⟨gb109, 5, none⟩ = some (.int .i64 0) := (blk_cell BK109.out 5).trans rfl
        have hfz10_0 := blk_frozen BK109.out 0
        have hfz10_1 := blk_frozen BK109.out 1
        have hfz10_2 := blk_frozen BK109.out 2
        have hfz10_3 := blk_frozen BK109.out 3
        have hfz10_4 := blk_frozen BK109.out 4
        have hfz10_5 := blk_frozen BK109.out 5
        go_wp2
        refine bodyPost_ret (results_ct rfl _ _ gb109 178 #[.bool true, .bool true, .bool false, .bool false, .int .i64 0, .int .i64 0] (0, 0) _ rfl (by (with_reducible repeat (first | refine blk_drewN ?_ _ | refine blk_drew ?_ | refine blk_alloc ?_ _)); refine blk_put (cs := #[.bool true, .bool true, .bool false, .bool false, .int .i64 0, .int .i64 0]) ?_ 5 _ rfl; (with_reducible repeat (first | refine blk_drewN ?_ _ | refine blk_drew ?_ | refine blk_alloc ?_ _)); refine blk_put (cs := #[.bool true, .bool true, .bool false, .bool false, .int .i64 0, .int .i64 0]) ?_ 4 _ rfl; (with_reducible repeat (first | refine blk_drewN ?_ _ | refine blk_drew ?_ | refine blk_alloc ?_ _)); refine blk_put (cs := #[.bool true, .bool true, .bool false, .bool false, .int .i64 0, .int .i64 0]) ?_ 3 _ rfl; (with_reducible repeat (first | refine blk_drewN ?_ _ | refine blk_drew ?_ | refine blk_alloc ?_ _)); refine blk_put (cs := #[.bool true, .bool true, .bool false, .bool false, .int .i64 0, .int .i64 0]) ?_ 2 _ rfl; (with_reducible repeat (first | refine blk_drewN ?_ _ | refine blk_drew ?_ | refine blk_alloc ?_ _)); refine blk_put (cs := #[.bool true, .bool false, .bool false, .bool false, .int .i64 0, .int .i64 0]) ?_ 1 _ rfl; (with_reducible repeat (first | refine blk_drewN ?_ _ | refine blk_drew ?_ | refine blk_alloc ?_ _)); refine blk_put (cs := #[.bool false, .bool false, .bool false, .bool false, .int .i64 0, .int .i64 0]) ?_ 0 _ rfl; (with_reducible repeat (first | refine blk_drewN ?_ _ | refine blk_drew ?_ | refine blk_alloc ?_ _)); exact BK109.out) Tryz.underlying178 rfl (by kernel_rfl)) rfl ?_
        exact ⟨by first | rfl | (simp [errW_none, errW_some] <;> rfl) | (simp [*, errW_none, errW_some] <;> rfl), by repeat (first | (with_reducible first | exact HB.out | apply below_alloc | apply pw_below_drewN | apply below_drew1 | refine below_set ?_ GE109.out) | exact HB.out)⟩
      · replace c9 := Bool.eq_false_iff.mpr c9
        subst c9
        have H1 : (if a0 = 4 then (some (true, true, false, false, 1, 5, true)) else (if a0 = 7 then (event_row.j1 kj1 a0 (a0 == 7)) else (if a0 = 8 then (event_row.j1 kj1 a0 (a0 == 8)) else (if a0 = 9 then (event_row.j1 kj1 a0 (a0 == 9)) else (event_row.j1 kj1 a0 (a0 == 10)))))) = some (r1, r2, r3, r4, r5, r6, r7) := by rw [if_neg (show ¬ (false = true) by decide)] at H; exact H
        clear H
        have H := H1
        clear H1
        by_cases c11 : a0 = 4
        · rw [if_pos c11] at H
          have c11b0 : (a0 == 4) = true := beq_iff_eq.mpr c11
          have c11b1 : (a0 != 4) = false := bne_eq_false_iff_eq.mpr c11
          clear c11
          simp only [Option.some.injEq, Prod.mk.injEq] at H
          obtain ⟨rfl, rfl, rfl, rfl, rfl, rfl, rfl⟩ := H
          have hcz12_0 : wc.cell? ⟨gb109, 0, none⟩ = some (.bool false) := (blk_cell BK109.out 0).trans rfl
          have hcz12_1 : wc.cell? ⟨gb109, 1, none⟩ = some (.bool false) := (blk_cell BK109.out 1).trans rfl
          have hcz12_2 : wc.cell? ⟨gb109, 2, none⟩ = some (.bool false) := (blk_cell BK109.out 2).trans rfl
          have hcz12_3 : wc.cell? ⟨gb109, 3, none⟩ = some (.bool false) := (blk_cell BK109.out 3).trans rfl
          have hcz12_4 : wc.cell? ⟨gb109, 4, none⟩ = some (.int .i64 0) := (blk_cell BK109.out 4).trans rfl
          have hcz12_5 : wc.cell? ⟨gb109, 5, none⟩ = some (.int .i64 0) := (blk_cell BK109.out 5).trans rfl
          have hfz12_0 := blk_frozen BK109.out 0
          have hfz12_1 := blk_frozen BK109.out 1
          have hfz12_2 := blk_frozen BK109.out 2
          have hfz12_3 := blk_frozen BK109.out 3
          have hfz12_4 := blk_frozen BK109.out 4
          have hfz12_5 := blk_frozen BK109.out 5
          go_wp2
          refine bodyPost_ret (results_ct rfl _ _ gb109 178 #[.bool true, .bool true, .bool false, .bool false, .int .i64 1, .int .i64 5] (0, 0) _ rfl (by (with_reducible repeat (first | refine blk_drewN ?_ _ | refine blk_drew ?_ | refine blk_alloc ?_ _)); refine blk_put (cs := #[.bool true, .bool true, .bool false, .bool false, .int .i64 1, .int .i64 0]) ?_ 5 _ rfl; (with_reducible repeat (first | refine blk_drewN ?_ _ | refine blk_drew ?_ | refine blk_alloc ?_ _)); refine blk_put (cs := #[.bool true, .bool true, .bool false, .bool false, .int .i64 0, .int .i64 0]) ?_ 4 _ rfl; (with_reducible repeat (first | refine blk_drewN ?_ _ | refine blk_drew ?_ | refine blk_alloc ?_ _)); refine blk_put (cs := #[.bool true, .bool true, .bool false, .bool false, .int .i64 0, .int .i64 0]) ?_ 3 _ rfl; (with_reducible repeat (first | refine blk_drewN ?_ _ | refine blk_drew ?_ | refine blk_alloc ?_ _)); refine blk_put (cs := #[.bool true, .bool true, .bool false, .bool false, .int .i64 0, .int .i64 0]) ?_ 2 _ rfl; (with_reducible repeat (first | refine blk_drewN ?_ _ | refine blk_drew ?_ | refine blk_alloc ?_ _)); refine blk_put (cs := #[.bool true, .bool false, .bool false, .bool false, .int .i64 0, .int .i64 0]) ?_ 1 _ rfl; (with_reducible repeat (first | refine blk_drewN ?_ _ | refine blk_drew ?_ | refine blk_alloc ?_ _)); refine blk_put (cs := #[.bool false, .bool false, .bool false, .bool false, .int .i64 0, .int .i64 0]) ?_ 0 _ rfl; (with_reducible repeat (first | refine blk_drewN ?_ _ | refine blk_drew ?_ | refine blk_alloc ?_ _)); exact BK109.out) Tryz.underlying178 rfl (by kernel_rfl)) rfl ?_
          exact ⟨by first | rfl | (simp [errW_none, errW_some] <;> rfl) | (simp [*, errW_none, errW_some] <;> rfl), by repeat (first | (with_reducible first | exact HB.out | apply below_alloc | apply pw_below_drewN | apply below_drew1 | refine below_set ?_ GE109.out) | exact HB.out)⟩
        · rw [if_neg c11] at H
          have c11b0 : (a0 == 4) = false := beq_eq_false_iff_ne.mpr c11
          have c11b1 : (a0 != 4) = true := bne_iff_ne.mpr c11
          have HC13 := Aside0.mk H
          clear H
          go_upto_if 16 with (fail)
          go_cut [16] (fun v16 wc => ∃ (kq : Nat) (x16_12 : Bool), v16 = .bool x16_12 ∧ Aside0 (event_row.j1 kq a0 x16_12 = some (r1, r2, r3, r4, r5, r6, r7)) ∧ Aside0 (kq ≤ kj1) ∧ Aside0 (wc.heap[gb109]? = some (.cells #[.bool false, .bool false, .bool false, .bool false, .int .i64 0, .int .i64 0] 178 (0, 0))) ∧ Aside0 (Below w.heap.size w wc))
          case first =>
            have H := HC13.out
            clear HC13
            by_cases c14 : a0 = 7
            · rw [if_pos c14] at H
              have c14b0 : (a0 == 7) = true := beq_iff_eq.mpr c14
              have c14b1 : (a0 != 7) = false := bne_eq_false_iff_eq.mpr c14
              clear c14
              (first | rw [c14b0] | (simp only [i64_w, i32_w]; rw [c14b0]) | skip)
              have H' := Aside0.mk H
              clear H
              go_wp2
              go_meet
              case rel => exact ⟨_, ((a0 == 7)), (by first | rfl | (simp; done) | (simp [*]; done)), H', ⟨by have := HJ1.out; first | omega | exact Nat.le_refl _⟩, ⟨by (with_reducible repeat (first | refine blk_drewN ?_ _ | refine blk_drew ?_ | refine blk_alloc ?_ _)); exact BK109.out⟩, ⟨by repeat (first | (with_reducible first | exact HB.out | apply below_alloc | apply pw_below_drewN | apply below_drew1 | refine below_set ?_ GE109.out) | exact HB.out)⟩⟩
            · rw [if_neg c14] at H
              have c14b0 : (a0 == 7) = false := beq_eq_false_iff_ne.mpr c14
              have c14b1 : (a0 != 7) = true := bne_iff_ne.mpr c14
              (first | rw [c14b0] | (simp only [i64_w, i32_w]; rw [c14b0]) | skip)
              by_cases c15 : a0 = 8
              · rw [if_pos c15] at H
                have c15b0 : (a0 == 8) = true := beq_iff_eq.mpr c15
                have c15b1 : (a0 != 8) = false := bne_eq_false_iff_eq.mpr c15
                clear c15
                have H' := Aside0.mk H
                clear H
                go_wp2
                go_meet
                case rel => exact ⟨_, ((a0 == 8)), (by first | rfl | (simp; done) | (simp [*]; done)), H', ⟨by have := HJ1.out; first | omega | exact Nat.le_refl _⟩, ⟨by (with_reducible repeat (first | refine blk_drewN ?_ _ | refine blk_drew ?_ | refine blk_alloc ?_ _)); exact BK109.out⟩, ⟨by repeat (first | (with_reducible first | exact HB.out | apply below_alloc | apply pw_below_drewN | apply below_drew1 | refine below_set ?_ GE109.out) | exact HB.out)⟩⟩
              · rw [if_neg c15] at H
                have c15b0 : (a0 == 8) = false := beq_eq_false_iff_ne.mpr c15
                have c15b1 : (a0 != 8) = true := bne_iff_ne.mpr c15
                by_cases c16 : a0 = 9
                · rw [if_pos c16] at H
                  have c16b0 : (a0 == 9) = true := beq_iff_eq.mpr c16
                  have c16b1 : (a0 != 9) = false := bne_eq_false_iff_eq.mpr c16
                  clear c16
                  have H' := Aside0.mk H
                  clear H
                  go_wp2
                  go_meet
                  case rel => exact ⟨_, ((a0 == 9)), (by first | rfl | (simp; done) | (simp [*]; done)), H', ⟨by have := HJ1.out; first | omega | exact Nat.le_refl _⟩, ⟨by (with_reducible repeat (first | refine blk_drewN ?_ _ | refine blk_drew ?_ | refine blk_alloc ?_ _)); exact BK109.out⟩, ⟨by repeat (first | (with_reducible first | exact HB.out | apply below_alloc | apply pw_below_drewN | apply below_drew1 | refine below_set ?_ GE109.out) | exact HB.out)⟩⟩
                · rw [if_neg c16] at H
                  have c16b0 : (a0 == 9) = false := beq_eq_false_iff_ne.mpr c16
                  have c16b1 : (a0 != 9) = true := bne_iff_ne.mpr c16
                  have H' := Aside0.mk H
                  clear H
                  go_wp2
                  go_meet
                  case rel => exact ⟨_, ((a0 == 10)), (by first | rfl | (simp; done) | (simp [*]; done)), H', ⟨by have := HJ1.out; first | omega | exact Nat.le_refl _⟩, ⟨by (with_reducible repeat (first | refine blk_drewN ?_ _ | refine blk_drew ?_ | refine blk_alloc ?_ _)); exact BK109.out⟩, ⟨by repeat (first | (with_reducible first | exact HB.out | apply below_alloc | apply pw_below_drewN | apply below_drew1 | refine below_set ?_ GE109.out) | exact HB.out)⟩⟩
          case rest =>
            clear HC13
            try clear c1
            try clear p2
            try clear c4
            try clear c4b0
            try clear c4b1
            try clear c5
            try clear c5b0
            try clear c5b1
            try clear c6
            try clear c6b0
            try clear c6b1
            try clear c7
            try clear c7b0
            try clear c7b1
            try clear c8
            try clear c8b0
            try clear c8b1
            try clear c9
            try clear c11
            try clear c11b0
            try clear c11b1
            try clear c13
            try clear c14
            try clear c14b0
            try clear c14b1
            try clear c15
            try clear c15b0
            try clear c15b1
            try clear c16
            try clear c16b0
            try clear c16b1
            try clear hcz10_0
            try clear hcz10_1
            try clear hcz10_2
            try clear hcz10_3
            try clear hcz10_4
            try clear hcz10_5
            try clear hcz12_0
            try clear hcz12_1
            try clear hcz12_2
            try clear hcz12_3
            try clear hcz12_4
            try clear hcz12_5
            try clear hfz10_0
            try clear hfz10_1
            try clear hfz10_2
            try clear hfz10_3
            try clear hfz10_4
            try clear hfz10_5
            try clear hfz12_0
            try clear hfz12_1
            try clear hfz12_2
            try clear hfz12_3
            try clear hfz12_4
            try clear hfz12_5
            try clear p2
            obtain ⟨kq, x16_12, rfl, HA, HJ12, BK109, HB⟩ := hcut
            cases kq with
            | zero => exact absurd HA.out (by simp [event_row.j1])
            | succ kj12 =>
              have H := HA.out
              clear HA
              simp only [event_row.j1] at H
              by_cases c17 : x16_12 = true
              · subst c17
                have H1 : (some (true, false, true, false, 0, 0, true)) = some (r1, r2, r3, r4, r5, r6, r7) := by rw [if_pos rfl] at H; exact H
                clear H
                have H := H1
                clear H1
                simp only [Option.some.injEq, Prod.mk.injEq] at H
                obtain ⟨rfl, rfl, rfl, rfl, rfl, rfl, rfl⟩ := H
                have hcz18_0 : wc.cell? ⟨gb109, 0, none⟩ = some (.bool false) := (blk_cell BK109.out 0).trans rfl
                have hcz18_1 : wc.cell? ⟨gb109, 1, none⟩ = some (.bool false) := (blk_cell BK109.out 1).trans rfl
                have hcz18_2 : wc.cell? ⟨gb109, 2, none⟩ = some (.bool false) := (blk_cell BK109.out 2).trans rfl
                have hcz18_3 : wc.cell? ⟨gb109, 3, none⟩ = some (.bool false) := (blk_cell BK109.out 3).trans rfl
                have hcz18_4 : wc.cell? ⟨gb109, 4, none⟩ = some (.int .i64 0) := (blk_cell BK109.out 4).trans rfl
                have hcz18_5 : wc.cell? ⟨gb109, 5, none⟩ = some (.int .i64 0) := (blk_cell BK109.out 5).trans rfl
                have hfz18_0 := blk_frozen BK109.out 0
                have hfz18_1 := blk_frozen BK109.out 1
                have hfz18_2 := blk_frozen BK109.out 2
                have hfz18_3 := blk_frozen BK109.out 3
                have hfz18_4 := blk_frozen BK109.out 4
                have hfz18_5 := blk_frozen BK109.out 5
                go_wp2
                refine bodyPost_ret (results_ct rfl _ _ gb109 178 #[.bool true, .bool false, .bool true, .bool false, .int .i64 0, .int .i64 0] (0, 0) _ rfl (by (with_reducible repeat (first | refine blk_drewN ?_ _ | refine blk_drew ?_ | refine blk_alloc ?_ _)); refine blk_put (cs := #[.bool true, .bool false, .bool true, .bool false, .int .i64 0, .int .i64 0]) ?_ 5 _ rfl; (with_reducible repeat (first | refine blk_drewN ?_ _ | refine blk_drew ?_ | refine blk_alloc ?_ _)); refine blk_put (cs := #[.bool true, .bool false, .bool true, .bool false, .int .i64 0, .int .i64 0]) ?_ 4 _ rfl; (with_reducible repeat (first | refine blk_drewN ?_ _ | refine blk_drew ?_ | refine blk_alloc ?_ _)); refine blk_put (cs := #[.bool true, .bool false, .bool true, .bool false, .int .i64 0, .int .i64 0]) ?_ 3 _ rfl; (with_reducible repeat (first | refine blk_drewN ?_ _ | refine blk_drew ?_ | refine blk_alloc ?_ _)); refine blk_put (cs := #[.bool true, .bool false, .bool false, .bool false, .int .i64 0, .int .i64 0]) ?_ 2 _ rfl; (with_reducible repeat (first | refine blk_drewN ?_ _ | refine blk_drew ?_ | refine blk_alloc ?_ _)); refine blk_put (cs := #[.bool true, .bool false, .bool false, .bool false, .int .i64 0, .int .i64 0]) ?_ 1 _ rfl; (with_reducible repeat (first | refine blk_drewN ?_ _ | refine blk_drew ?_ | refine blk_alloc ?_ _)); refine blk_put (cs := #[.bool false, .bool false, .bool false, .bool false, .int .i64 0, .int .i64 0]) ?_ 0 _ rfl; (with_reducible repeat (first | refine blk_drewN ?_ _ | refine blk_drew ?_ | refine blk_alloc ?_ _)); exact BK109.out) Tryz.underlying178 rfl (by kernel_rfl)) rfl ?_
                exact ⟨by first | rfl | (simp [errW_none, errW_some] <;> rfl) | (simp [*, errW_none, errW_some] <;> rfl), by repeat (first | (with_reducible first | exact HB.out | apply below_alloc | apply pw_below_drewN | apply below_drew1 | refine below_set ?_ GE109.out) | exact HB.out)⟩
              · replace c17 := Bool.eq_false_iff.mpr c17
                subst c17
                have H1 : (if a0 = 11 then (some (false, true, false, true, 0, 1048576, true)) else (if a0 = 12 then (some (false, true, false, false, 0, 1048576, true)) else (if a0 = 13 then (some (false, true, false, false, 0, 0, true)) else (if a0 = 14 then (some (true, false, false, false, 0, 0, true)) else (some (false, false, false, false, 0, 0, false)))))) = some (r1, r2, r3, r4, r5, r6, r7) := by rw [if_neg (show ¬ (false = true) by decide)] at H; exact H
                clear H
                have H := H1
                clear H1
                by_cases c19 : a0 = 11
                · rw [if_pos c19] at H
                  have c19b0 : (a0 == 11) = true := beq_iff_eq.mpr c19
                  have c19b1 : (a0 != 11) = false := bne_eq_false_iff_eq.mpr c19
                  clear c19
                  simp only [Option.some.injEq, Prod.mk.injEq] at H
                  obtain ⟨rfl, rfl, rfl, rfl, rfl, rfl, rfl⟩ := H
                  have hcz20_0 : wc.cell? ⟨gb109, 0, none⟩ = some (.bool false) := (blk_cell BK109.out 0).trans rfl
                  have hcz20_1 : wc.cell? ⟨gb109, 1, none⟩ = some (.bool false) := (blk_cell BK109.out 1).trans rfl
                  have hcz20_2 : wc.cell? ⟨gb109, 2, none⟩ = some (.bool false) := (blk_cell BK109.out 2).trans rfl
                  have hcz20_3 : wc.cell? ⟨gb109, 3, none⟩ = some (.bool false) := (blk_cell BK109.out 3).trans rfl
                  have hcz20_4 : wc.cell? ⟨gb109, 4, none⟩ = some (.int .i64 0) := (blk_cell BK109.out 4).trans rfl
                  have hcz20_5 : wc.cell? ⟨gb109, 5, none⟩ = some (.int .i64 0) := (blk_cell BK109.out 5).trans rfl
                  have hfz20_0 := blk_frozen BK109.out 0
                  have hfz20_1 := blk_frozen BK109.out 1
                  have hfz20_2 := blk_frozen BK109.out 2
                  have hfz20_3 := blk_frozen BK109.out 3
                  have hfz20_4 := blk_frozen BK109.out 4
                  have hfz20_5 := blk_frozen BK109.out 5
                  go_wp2
                  refine bodyPost_ret (results_ct rfl _ _ gb109 178 #[.bool false, .bool true, .bool false, .bool true, .int .i64 0, .int .i64 1048576] (0, 0) _ rfl (by (with_reducible repeat (first | refine blk_drewN ?_ _ | refine blk_drew ?_ | refine blk_alloc ?_ _)); refine blk_put (cs := #[.bool false, .bool true, .bool false, .bool true, .int .i64 0, .int .i64 0]) ?_ 5 _ rfl; (with_reducible repeat (first | refine blk_drewN ?_ _ | refine blk_drew ?_ | refine blk_alloc ?_ _)); refine blk_put (cs := #[.bool false, .bool true, .bool false, .bool true, .int .i64 0, .int .i64 0]) ?_ 4 _ rfl; (with_reducible repeat (first | refine blk_drewN ?_ _ | refine blk_drew ?_ | refine blk_alloc ?_ _)); refine blk_put (cs := #[.bool false, .bool true, .bool false, .bool false, .int .i64 0, .int .i64 0]) ?_ 3 _ rfl; (with_reducible repeat (first | refine blk_drewN ?_ _ | refine blk_drew ?_ | refine blk_alloc ?_ _)); refine blk_put (cs := #[.bool false, .bool true, .bool false, .bool false, .int .i64 0, .int .i64 0]) ?_ 2 _ rfl; (with_reducible repeat (first | refine blk_drewN ?_ _ | refine blk_drew ?_ | refine blk_alloc ?_ _)); refine blk_put (cs := #[.bool false, .bool false, .bool false, .bool false, .int .i64 0, .int .i64 0]) ?_ 1 _ rfl; (with_reducible repeat (first | refine blk_drewN ?_ _ | refine blk_drew ?_ | refine blk_alloc ?_ _)); refine blk_put (cs := #[.bool false, .bool false, .bool false, .bool false, .int .i64 0, .int .i64 0]) ?_ 0 _ rfl; (with_reducible repeat (first | refine blk_drewN ?_ _ | refine blk_drew ?_ | refine blk_alloc ?_ _)); exact BK109.out) Tryz.underlying178 rfl (by kernel_rfl)) rfl ?_
                  exact ⟨by first | rfl | (simp [errW_none, errW_some] <;> rfl) | (simp [*, errW_none, errW_some] <;> rfl), by repeat (first | (with_reducible first | exact HB.out | apply below_alloc | apply pw_below_drewN | apply below_drew1 | refine below_set ?_ GE109.out) | exact HB.out)⟩
                · rw [if_neg c19] at H
                  have c19b0 : (a0 == 11) = false := beq_eq_false_iff_ne.mpr c19
                  have c19b1 : (a0 != 11) = true := bne_iff_ne.mpr c19
                  by_cases c21 : a0 = 12
                  · rw [if_pos c21] at H
                    have c21b0 : (a0 == 12) = true := beq_iff_eq.mpr c21
                    have c21b1 : (a0 != 12) = false := bne_eq_false_iff_eq.mpr c21
                    clear c21
                    simp only [Option.some.injEq, Prod.mk.injEq] at H
                    obtain ⟨rfl, rfl, rfl, rfl, rfl, rfl, rfl⟩ := H
                    have hcz22_0 : wc.cell? ⟨gb109, 0, none⟩ = some (.bool false) := (blk_cell BK109.out 0).trans rfl
                    have hcz22_1 : wc.cell? ⟨gb109, 1, none⟩ = some (.bool false) := (blk_cell BK109.out 1).trans rfl
                    have hcz22_2 : wc.cell? ⟨gb109, 2, none⟩ = some (.bool false) := (blk_cell BK109.out 2).trans rfl
                    have hcz22_3 : wc.cell? ⟨gb109, 3, none⟩ = some (.bool false) := (blk_cell BK109.out 3).trans rfl
                    have hcz22_4 : wc.cell? ⟨gb109, 4, none⟩ = some (.int .i64 0) := (blk_cell BK109.out 4).trans rfl
                    have hcz22_5 : wc.cell? ⟨gb109, 5, none⟩ = some (.int .i64 0) := (blk_cell BK109.out 5).trans rfl
                    have hfz22_0 := blk_frozen BK109.out 0
                    have hfz22_1 := blk_frozen BK109.out 1
                    have hfz22_2 := blk_frozen BK109.out 2
                    have hfz22_3 := blk_frozen BK109.out 3
                    have hfz22_4 := blk_frozen BK109.out 4
                    have hfz22_5 := blk_frozen BK109.out 5
                    go_wp2
                    refine bodyPost_ret (results_ct rfl _ _ gb109 178 #[.bool false, .bool true, .bool false, .bool false, .int .i64 0, .int .i64 1048576] (0, 0) _ rfl (by (with_reducible repeat (first | refine blk_drewN ?_ _ | refine blk_drew ?_ | refine blk_alloc ?_ _)); refine blk_put (cs := #[.bool false, .bool true, .bool false, .bool false, .int .i64 0, .int .i64 0]) ?_ 5 _ rfl; (with_reducible repeat (first | refine blk_drewN ?_ _ | refine blk_drew ?_ | refine blk_alloc ?_ _)); refine blk_put (cs := #[.bool false, .bool true, .bool false, .bool false, .int .i64 0, .int .i64 0]) ?_ 4 _ rfl; (with_reducible repeat (first | refine blk_drewN ?_ _ | refine blk_drew ?_ | refine blk_alloc ?_ _)); refine blk_put (cs := #[.bool false, .bool true, .bool false, .bool false, .int .i64 0, .int .i64 0]) ?_ 3 _ rfl; (with_reducible repeat (first | refine blk_drewN ?_ _ | refine blk_drew ?_ | refine blk_alloc ?_ _)); refine blk_put (cs := #[.bool false, .bool true, .bool false, .bool false, .int .i64 0, .int .i64 0]) ?_ 2 _ rfl; (with_reducible repeat (first | refine blk_drewN ?_ _ | refine blk_drew ?_ | refine blk_alloc ?_ _)); refine blk_put (cs := #[.bool false, .bool false, .bool false, .bool false, .int .i64 0, .int .i64 0]) ?_ 1 _ rfl; (with_reducible repeat (first | refine blk_drewN ?_ _ | refine blk_drew ?_ | refine blk_alloc ?_ _)); refine blk_put (cs := #[.bool false, .bool false, .bool false, .bool false, .int .i64 0, .int .i64 0]) ?_ 0 _ rfl; (with_reducible repeat (first | refine blk_drewN ?_ _ | refine blk_drew ?_ | refine blk_alloc ?_ _)); exact BK109.out) Tryz.underlying178 rfl (by kernel_rfl)) rfl ?_
                    exact ⟨by first | rfl | (simp [errW_none, errW_some] <;> rfl) | (simp [*, errW_none, errW_some] <;> rfl), by repeat (first | (with_reducible first | exact HB.out | apply below_alloc | apply pw_below_drewN | apply below_drew1 | refine below_set ?_ GE109.out) | exact HB.out)⟩
                  · rw [if_neg c21] at H
                    have c21b0 : (a0 == 12) = false := beq_eq_false_iff_ne.mpr c21
                    have c21b1 : (a0 != 12) = true := bne_iff_ne.mpr c21
                    by_cases c23 : a0 = 13
                    · rw [if_pos c23] at H
                      have c23b0 : (a0 == 13) = true := beq_iff_eq.mpr c23
                      have c23b1 : (a0 != 13) = false := bne_eq_false_iff_eq.mpr c23
                      clear c23
                      simp only [Option.some.injEq, Prod.mk.injEq] at H
                      obtain ⟨rfl, rfl, rfl, rfl, rfl, rfl, rfl⟩ := H
                      have hcz24_0 : wc.cell? ⟨gb109, 0, none⟩ = some (.bool false) := (blk_cell BK109.out 0).trans rfl
                      have hcz24_1 : wc.cell? ⟨gb109, 1, none⟩ = some (.bool false) := (blk_cell BK109.out 1).trans rfl
                      have hcz24_2 : wc.cell? ⟨gb109, 2, none⟩ = some (.bool false) := (blk_cell BK109.out 2).trans rfl
                      have hcz24_3 : wc.cell? ⟨gb109, 3, none⟩ = some (.bool false) := (blk_cell BK109.out 3).trans rfl
                      have hcz24_4 : wc.cell? ⟨gb109, 4, none⟩ = some (.int .i64 0) := (blk_cell BK109.out 4).trans rfl
                      have hcz24_5 : wc.cell? ⟨gb109, 5, none⟩ = some (.int .i64 0) := (blk_cell BK109.out 5).trans rfl
                      have hfz24_0 := blk_frozen BK109.out 0
                      have hfz24_1 := blk_frozen BK109.out 1
                      have hfz24_2 := blk_frozen BK109.out 2
                      have hfz24_3 := blk_frozen BK109.out 3
                      have hfz24_4 := blk_frozen BK109.out 4
                      have hfz24_5 := blk_frozen BK109.out 5
                      go_wp2
                      refine bodyPost_ret (results_ct rfl _ _ gb109 178 #[.bool false, .bool true, .bool false, .bool false, .int .i64 0, .int .i64 0] (0, 0) _ rfl (by (with_reducible repeat (first | refine blk_drewN ?_ _ | refine blk_drew ?_ | refine blk_alloc ?_ _)); refine blk_put (cs := #[.bool false, .bool true, .bool false, .bool false, .int .i64 0, .int .i64 0]) ?_ 5 _ rfl; (with_reducible repeat (first | refine blk_drewN ?_ _ | refine blk_drew ?_ | refine blk_alloc ?_ _)); refine blk_put (cs := #[.bool false, .bool true, .bool false, .bool false, .int .i64 0, .int .i64 0]) ?_ 4 _ rfl; (with_reducible repeat (first | refine blk_drewN ?_ _ | refine blk_drew ?_ | refine blk_alloc ?_ _)); refine blk_put (cs := #[.bool false, .bool true, .bool false, .bool false, .int .i64 0, .int .i64 0]) ?_ 3 _ rfl; (with_reducible repeat (first | refine blk_drewN ?_ _ | refine blk_drew ?_ | refine blk_alloc ?_ _)); refine blk_put (cs := #[.bool false, .bool true, .bool false, .bool false, .int .i64 0, .int .i64 0]) ?_ 2 _ rfl; (with_reducible repeat (first | refine blk_drewN ?_ _ | refine blk_drew ?_ | refine blk_alloc ?_ _)); refine blk_put (cs := #[.bool false, .bool false, .bool false, .bool false, .int .i64 0, .int .i64 0]) ?_ 1 _ rfl; (with_reducible repeat (first | refine blk_drewN ?_ _ | refine blk_drew ?_ | refine blk_alloc ?_ _)); refine blk_put (cs := #[.bool false, .bool false, .bool false, .bool false, .int .i64 0, .int .i64 0]) ?_ 0 _ rfl; (with_reducible repeat (first | refine blk_drewN ?_ _ | refine blk_drew ?_ | refine blk_alloc ?_ _)); exact BK109.out) Tryz.underlying178 rfl (by kernel_rfl)) rfl ?_
                      exact ⟨by first | rfl | (simp [errW_none, errW_some] <;> rfl) | (simp [*, errW_none, errW_some] <;> rfl), by repeat (first | (with_reducible first | exact HB.out | apply below_alloc | apply pw_below_drewN | apply below_drew1 | refine below_set ?_ GE109.out) | exact HB.out)⟩
                    · rw [if_neg c23] at H
                      have c23b0 : (a0 == 13) = false := beq_eq_false_iff_ne.mpr c23
                      have c23b1 : (a0 != 13) = true := bne_iff_ne.mpr c23
                      by_cases c25 : a0 = 14
                      · rw [if_pos c25] at H
                        have c25b0 : (a0 == 14) = true := beq_iff_eq.mpr c25
                        have c25b1 : (a0 != 14) = false := bne_eq_false_iff_eq.mpr c25
                        clear c25
                        simp only [Option.some.injEq, Prod.mk.injEq] at H
                        obtain ⟨rfl, rfl, rfl, rfl, rfl, rfl, rfl⟩ := H
                        have hcz26_0 : wc.cell? ⟨gb109, 0, none⟩ = some (.bool false) := (blk_cell BK109.out 0).trans rfl
                        have hcz26_1 : wc.cell? ⟨gb109, 1, none⟩ = some (.bool false) := (blk_cell BK109.out 1).trans rfl
                        have hcz26_2 : wc.cell? ⟨gb109, 2, none⟩ = some (.bool false) := (blk_cell BK109.out 2).trans rfl
                        have hcz26_3 : wc.cell? ⟨gb109, 3, none⟩ = some (.bool false) := (blk_cell BK109.out 3).trans rfl
                        have hcz26_4 : wc.cell? ⟨gb109, 4, none⟩ = some (.int .i64 0) := (blk_cell BK109.out 4).trans rfl
                        have hcz26_5 : wc.cell? ⟨gb109, 5, none⟩ = some (.int .i64 0) := (blk_cell BK109.out 5).trans rfl
                        have hfz26_0 := blk_frozen BK109.out 0
                        have hfz26_1 := blk_frozen BK109.out 1
                        have hfz26_2 := blk_frozen BK109.out 2
                        have hfz26_3 := blk_frozen BK109.out 3
                        have hfz26_4 := blk_frozen BK109.out 4
                        have hfz26_5 := blk_frozen BK109.out 5
                        go_wp2
                        refine bodyPost_ret (results_ct rfl _ _ gb109 178 #[.bool true, .bool false, .bool false, .bool false, .int .i64 0, .int .i64 0] (0, 0) _ rfl (by (with_reducible repeat (first | refine blk_drewN ?_ _ | refine blk_drew ?_ | refine blk_alloc ?_ _)); refine blk_put (cs := #[.bool true, .bool false, .bool false, .bool false, .int .i64 0, .int .i64 0]) ?_ 5 _ rfl; (with_reducible repeat (first | refine blk_drewN ?_ _ | refine blk_drew ?_ | refine blk_alloc ?_ _)); refine blk_put (cs := #[.bool true, .bool false, .bool false, .bool false, .int .i64 0, .int .i64 0]) ?_ 4 _ rfl; (with_reducible repeat (first | refine blk_drewN ?_ _ | refine blk_drew ?_ | refine blk_alloc ?_ _)); refine blk_put (cs := #[.bool true, .bool false, .bool false, .bool false, .int .i64 0, .int .i64 0]) ?_ 3 _ rfl; (with_reducible repeat (first | refine blk_drewN ?_ _ | refine blk_drew ?_ | refine blk_alloc ?_ _)); refine blk_put (cs := #[.bool true, .bool false, .bool false, .bool false, .int .i64 0, .int .i64 0]) ?_ 2 _ rfl; (with_reducible repeat (first | refine blk_drewN ?_ _ | refine blk_drew ?_ | refine blk_alloc ?_ _)); refine blk_put (cs := #[.bool true, .bool false, .bool false, .bool false, .int .i64 0, .int .i64 0]) ?_ 1 _ rfl; (with_reducible repeat (first | refine blk_drewN ?_ _ | refine blk_drew ?_ | refine blk_alloc ?_ _)); refine blk_put (cs := #[.bool false, .bool false, .bool false, .bool false, .int .i64 0, .int .i64 0]) ?_ 0 _ rfl; (with_reducible repeat (first | refine blk_drewN ?_ _ | refine blk_drew ?_ | refine blk_alloc ?_ _)); exact BK109.out) Tryz.underlying178 rfl (by kernel_rfl)) rfl ?_
                        exact ⟨by first | rfl | (simp [errW_none, errW_some] <;> rfl) | (simp [*, errW_none, errW_some] <;> rfl), by repeat (first | (with_reducible first | exact HB.out | apply below_alloc | apply pw_below_drewN | apply below_drew1 | refine below_set ?_ GE109.out) | exact HB.out)⟩
                      · rw [if_neg c25] at H
                        have c25b0 : (a0 == 14) = false := beq_eq_false_iff_ne.mpr c25
                        have c25b1 : (a0 != 14) = true := bne_iff_ne.mpr c25
                        simp only [Option.some.injEq, Prod.mk.injEq] at H
                        obtain ⟨rfl, rfl, rfl, rfl, rfl, rfl, rfl⟩ := H
                        have hcz27_0 : wc.cell? ⟨gb109, 0, none⟩ = some (.bool false) := (blk_cell BK109.out 0).trans rfl
                        have hcz27_1 : wc.cell? ⟨gb109, 1, none⟩ = some (.bool false) := (blk_cell BK109.out 1).trans rfl
                        have hcz27_2 : wc.cell? ⟨gb109, 2, none⟩ = some (.bool false) := (blk_cell BK109.out 2).trans rfl
                        have hcz27_3 : wc.cell? ⟨gb109, 3, none⟩ = some (.bool false) := (blk_cell BK109.out 3).trans rfl
                        have hcz27_4 : wc.cell? ⟨gb109, 4, none⟩ = some (.int .i64 0) := (blk_cell BK109.out 4).trans rfl
                        have hcz27_5 : wc.cell? ⟨gb109, 5, none⟩ = some (.int .i64 0) := (blk_cell BK109.out 5).trans rfl
                        have hfz27_0 := blk_frozen BK109.out 0
                        have hfz27_1 := blk_frozen BK109.out 1
                        have hfz27_2 := blk_frozen BK109.out 2
                        have hfz27_3 := blk_frozen BK109.out 3
                        have hfz27_4 := blk_frozen BK109.out 4
                        have hfz27_5 := blk_frozen BK109.out 5
                        go_wp2
                        refine bodyPost_ret (results_ct rfl _ _ gb109 178 #[.bool false, .bool false, .bool false, .bool false, .int .i64 0, .int .i64 0] (0, 0) _ rfl (by (with_reducible repeat (first | refine blk_drewN ?_ _ | refine blk_drew ?_ | refine blk_alloc ?_ _)); refine blk_put (cs := #[.bool false, .bool false, .bool false, .bool false, .int .i64 0, .int .i64 0]) ?_ 5 _ rfl; (with_reducible repeat (first | refine blk_drewN ?_ _ | refine blk_drew ?_ | refine blk_alloc ?_ _)); refine blk_put (cs := #[.bool false, .bool false, .bool false, .bool false, .int .i64 0, .int .i64 0]) ?_ 4 _ rfl; (with_reducible repeat (first | refine blk_drewN ?_ _ | refine blk_drew ?_ | refine blk_alloc ?_ _)); refine blk_put (cs := #[.bool false, .bool false, .bool false, .bool false, .int .i64 0, .int .i64 0]) ?_ 3 _ rfl; (with_reducible repeat (first | refine blk_drewN ?_ _ | refine blk_drew ?_ | refine blk_alloc ?_ _)); refine blk_put (cs := #[.bool false, .bool false, .bool false, .bool false, .int .i64 0, .int .i64 0]) ?_ 2 _ rfl; (with_reducible repeat (first | refine blk_drewN ?_ _ | refine blk_drew ?_ | refine blk_alloc ?_ _)); refine blk_put (cs := #[.bool false, .bool false, .bool false, .bool false, .int .i64 0, .int .i64 0]) ?_ 1 _ rfl; (with_reducible repeat (first | refine blk_drewN ?_ _ | refine blk_drew ?_ | refine blk_alloc ?_ _)); refine blk_put (cs := #[.bool false, .bool false, .bool false, .bool false, .int .i64 0, .int .i64 0]) ?_ 0 _ rfl; (with_reducible repeat (first | refine blk_drewN ?_ _ | refine blk_drew ?_ | refine blk_alloc ?_ _)); exact BK109.out) Tryz.underlying178 rfl (by kernel_rfl)) rfl ?_
                        exact ⟨by first | rfl | (simp [errW_none, errW_some] <;> rfl) | (simp [*, errW_none, errW_some] <;> rfl), by repeat (first | (with_reducible first | exact HB.out | apply below_alloc | apply pw_below_drewN | apply below_drew1 | refine below_set ?_ GE109.out) | exact HB.out)⟩

/-! ### event_within: function 139 -/
def event_within.f (a0 : Int) (a1 : Int) (a2 : Int) : Option (Bool) := if a0 ≥ a1 then (some (decide (a0 ≤ a2))) else (some false)
set_option maxHeartbeats 8000000 in
set_option maxRecDepth 100000 in
theorem event_within.calls (a0 : Int) (a1 : Int) (a2 : Int) (r : Bool) (w : World) (h : event_within.f a0 a1 a2 = some r) :
    Calls Tryz.prog 139 #[.int .i64 a0, .int .i64 a1, .int .i64 a2] w fun e w' => e = .returned (.bool r) ∧ Drawn0 w w' := by
  have H : (if a0 ≥ a1 then (some (decide (a0 ≤ a2))) else (some false)) = some r := h
  clear h
  by_cases c4 : a0 ≥ a1
  · rw [if_pos c4] at H
    have c4b0 : decide (a1 ≤ a0) = true := decide_eq_true c4
    clear c4
    obtain rfl := Option.some.inj H
    go_enter Tryz.func139, Tryz.ntmps139
    go_wp2
    go_ret
    exact ⟨by first | rfl | (simp; done) | (simp [*]; done), by repeat (first | exact Drawn0.refl _ | apply Drawn0.step)⟩
  · rw [if_neg c4] at H
    have c4b0 : decide (a1 ≤ a0) = false := decide_eq_false c4
    clear c4
    obtain rfl := Option.some.inj H
    go_enter Tryz.func139, Tryz.ntmps139
    go_wp2
    go_ret
    exact ⟨by first | rfl | (simp; done) | (simp [*]; done), by repeat (first | exact Drawn0.refl _ | apply Drawn0.step)⟩

/-- THE ONE PURE STATEMENT of event_within: yours. -/
def event_within.Pure : Prop := ∀ (a0 : Int) (a1 : Int) (a2 : Int), (Lit.int .i64 a0).wf = true → (Lit.int .i64 a1).wf = true → (Lit.int .i64 a2).wf = true → event_within.f a0 a1 a2 = some true
theorem event_within.walk (P : event_within.Pure) (a0 : Int) (a1 : Int) (a2 : Int) (w : World) (w0 : (Lit.int .i64 a0).wf = true) (w1 : (Lit.int .i64 a1).wf = true) (w2 : (Lit.int .i64 a2).wf = true) :
    Calls Tryz.prog 139 #[.int .i64 a0, .int .i64 a1, .int .i64 a2] w fun e w' => e = .returned (.bool true) ∧ Below w.heap.size w w' := by
  have h := P a0 a1 a2 w0 w1 w2
  refine (event_within.calls a0 a1 a2 true w h).mono ?_
  rintro e w' ⟨rfl, hd⟩
  exact ⟨rfl, hd.below⟩

end Go.Proofs.YtmmfoeckggpgdaaGreatDoor.PE
