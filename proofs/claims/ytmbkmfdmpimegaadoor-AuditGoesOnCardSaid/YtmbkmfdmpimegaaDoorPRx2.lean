-- laid by print.py of the kit (own words), several laws in one
import Derived.Test.YtmbkmfdmpimegaaDoorPRx0
import Derived.Test.YtmbkmfdmpimegaaDoorPRx1
namespace Go.Proofs.YtmbkmfdmpimegaaDoor.PR
open Go.RowKit Go.Proofs.YtmbkmfdmpimegaaDoorW.PrintWords Go.Proofs.YtmbkmfdmpimegaaDoorW.PrintLast Go.Proofs.YtmbkmfdmpimegaaDoorW.PrintMore
attribute [local go_sem] max2_int min2_int max_two min_two max_three min_three max_four min_four   -- for this text's walks alone
set_option linter.unusedVariables false
set_option linter.unusedSimpArgs false

/-! ### ciceroneref43_May: function 10 -/
mutual
def ciceroneref43_May.j0 : Nat → Bool → Int → Int → ByteArray → List ByteArray → Int → Option (Bool)
  | 0, _, _, _, _, _, _ => none
  | k + 1, x33, x107000, x107001, x107002, x107003, x107004 => if x33 = true then (some false) else (ciceroneref43_May.l0 k 0 x107000 x107001 x107002 x107003 x107004)
def ciceroneref43_May.l0 : Nat → Int → Int → Int → ByteArray → List ByteArray → Int → Option (Bool)
  | 0, _, _, _, _, _, _ => none
  | k + 1, x3, x107000, x107001, x107002, x107003, x107004 => if x3 < (x107003.length : Int) then (if 0 ≤ x3 then ((ciceroneref02_Name.f k (rdOf ByteArray.empty x107003 x3)).bind fun t109 => (if t109 = true then (ciceroneref43_May.l0 k (wrap64 (x3 + 1)) x107000 x107001 x107002 x107003 x107004) else (some false))) else (none)) else (some true)
end
def ciceroneref43_May.f (k : Nat) (a0_0 : Int) (a0_1 : Int) (a0_2 : ByteArray) (l0_3 : List ByteArray) (a0_4 : Int) : Option (Bool) := if a0_0 < 0 then (ciceroneref43_May.j0 k true a0_0 a0_1 a0_2 l0_3 a0_4) else (if a0_0 > 1048576 then (ciceroneref43_May.j0 k true a0_0 a0_1 a0_2 l0_3 a0_4) else (if a0_1 < 0 then (ciceroneref43_May.j0 k true a0_0 a0_1 a0_2 l0_3 a0_4) else (if a0_1 > 1099511627776 then (ciceroneref43_May.j0 k true a0_0 a0_1 a0_2 l0_3 a0_4) else ((ciceroneref02_Name.f k a0_2).bind fun t107 => (if t107 = true then (ciceroneref43_May.j0 k (decide ((l0_3.length : Int) > 1000)) a0_0 a0_1 a0_2 l0_3 a0_4) else (ciceroneref43_May.j0 k true a0_0 a0_1 a0_2 l0_3 a0_4))))))
theorem ciceroneref43_May.mono_l : ∀ k, (∀ y0 y1 y2 y3 y4 y5, LeO (ciceroneref43_May.j0 k y0 y1 y2 y3 y4 y5) (ciceroneref43_May.j0 (k + 1) y0 y1 y2 y3 y4 y5)) ∧ (∀ y0 y1 y2 y3 y4 y5, LeO (ciceroneref43_May.l0 k y0 y1 y2 y3 y4 y5) (ciceroneref43_May.l0 (k + 1) y0 y1 y2 y3 y4 y5))
  | 0 => ⟨fun _ _ _ _ _ _ r h => by simp [ciceroneref43_May.j0] at h, fun _ _ _ _ _ _ r h => by simp [ciceroneref43_May.l0] at h⟩
  | k + 1 => by
    obtain ⟨ih0, ih1⟩ := ciceroneref43_May.mono_l k
    refine ⟨?_, ?_⟩
    · intro y0 y1 y2 y3 y4 y5
      unfold ciceroneref43_May.j0
      repeat' first
      | (with_reducible exact ih0 _ _ _ _ _ _)
      | (with_reducible exact ih1 _ _ _ _ _ _)
      | (with_reducible exact ciceroneref02_Name.mono _ _)
      | (with_reducible exact LeO.refl _)
      | (with_reducible exact LeO.none _)
      | (with_reducible refine LeO.ite ?_ ?_)
      | (with_reducible refine LeO.bind ?_ (fun _ => ?_))
      | exact ih0 _ _ _ _ _ _
      | exact ih1 _ _ _ _ _ _
      | exact ciceroneref02_Name.mono _ _
      | exact LeO.none _
      | refine LeO.ite ?_ ?_
      | refine LeO.bind ?_ (fun _ => ?_)
    · intro y0 y1 y2 y3 y4 y5
      unfold ciceroneref43_May.l0
      repeat' first
      | (with_reducible exact ih0 _ _ _ _ _ _)
      | (with_reducible exact ih1 _ _ _ _ _ _)
      | (with_reducible exact ciceroneref02_Name.mono _ _)
      | (with_reducible exact LeO.refl _)
      | (with_reducible exact LeO.none _)
      | (with_reducible refine LeO.ite ?_ ?_)
      | (with_reducible refine LeO.bind ?_ (fun _ => ?_))
      | exact ih0 _ _ _ _ _ _
      | exact ih1 _ _ _ _ _ _
      | exact ciceroneref02_Name.mono _ _
      | exact LeO.none _
      | refine LeO.ite ?_ ?_
      | refine LeO.bind ?_ (fun _ => ?_)
theorem ciceroneref43_May.mono : ∀ a0 a1 a2 a3 a4 k, LeO (ciceroneref43_May.f k a0 a1 a2 a3 a4) (ciceroneref43_May.f (k + 1) a0 a1 a2 a3 a4) := by
  intro a0 a1 a2 a3 a4 k
  obtain ⟨ih0, ih1⟩ := ciceroneref43_May.mono_l k
  unfold ciceroneref43_May.f
  repeat' first
      | (with_reducible exact ih0 _ _ _ _ _ _)
      | (with_reducible exact ih1 _ _ _ _ _ _)
      | (with_reducible exact ciceroneref02_Name.mono _ _)
      | (with_reducible exact LeO.refl _)
      | (with_reducible exact LeO.none _)
      | (with_reducible refine LeO.ite ?_ ?_)
      | (with_reducible refine LeO.bind ?_ (fun _ => ?_))
      | exact ih0 _ _ _ _ _ _
      | exact ih1 _ _ _ _ _ _
      | exact ciceroneref02_Name.mono _ _
      | exact LeO.none _
      | refine LeO.ite ?_ ?_
      | refine LeO.bind ?_ (fun _ => ?_)
set_option maxHeartbeats 8000000 in
set_option maxRecDepth 100000 in
theorem ciceroneref43_May.calls (k : Nat) (a0_0 : Int) (a0_1 : Int) (a0_2 : ByteArray) (A0_3 : Option Addr) (c0_3 : Nat) (l0_3 : List ByteArray) (a0_4 : Int) (r : Bool) (w : World) (hr0_3 : Kd.C Kd.string w A0_3 l0_3.length l0_3) (hc0_3 : l0_3.length ≤ c0_3) (h : ciceroneref43_May.f k a0_0 a0_1 a0_2 l0_3 a0_4 = some r) :
    Calls Tryd.prog 10 #[.agg #[.int .i64 a0_0, .int .i64 a0_1, .string a0_2, .slice A0_3 l0_3.length c0_3, .int .u64 a0_4]] w fun e w' => e = .returned (.bool r) ∧ Below w.heap.size w w' := by
  have hu30 := Tryd.underlying30
  have HR0_3 := Aside0.mk hr0_3
  have HC0_3 := Aside0.mk hc0_3
  clear hr0_3 hc0_3
  have HB := Aside0.mk (Below.refl w.heap.size w)
  have H : (if a0_0 < 0 then (ciceroneref43_May.j0 k true a0_0 a0_1 a0_2 l0_3 a0_4) else (if a0_0 > 1048576 then (ciceroneref43_May.j0 k true a0_0 a0_1 a0_2 l0_3 a0_4) else (if a0_1 < 0 then (ciceroneref43_May.j0 k true a0_0 a0_1 a0_2 l0_3 a0_4) else (if a0_1 > 1099511627776 then (ciceroneref43_May.j0 k true a0_0 a0_1 a0_2 l0_3 a0_4) else ((ciceroneref02_Name.f k a0_2).bind fun t107 => (if t107 = true then (ciceroneref43_May.j0 k (decide ((l0_3.length : Int) > 1000)) a0_0 a0_1 a0_2 l0_3 a0_4) else (ciceroneref43_May.j0 k true a0_0 a0_1 a0_2 l0_3 a0_4))))))) = some r := h
  clear h
  have HC2 := Aside0.mk H
  clear H
  go_enter Tryd.func10, Tryd.ntmps10
  go_upto_region 1 with (first | ((with_reducible refine gate_dst (N := 1) rfl ?_); (try (refine gate_guard (by rfl) ?_; dsimp only)); refine box_event ?hg (N := 1) ?hd (cs := #[.int .i64 a0_0, .int .i64 a0_1, .string a0_2, .slice A0_3 l0_3.length c0_3, .int .u64 a0_4]) (t := 30) ?hr ?_; (case hd => rfl); (case hg => rfl); (case hr => first | (go_simp; done) | (go_simp; rfl)); intro gb106 hg w3 hbox hb; have n0_ := Aside0.mk (below_step (by repeat (first | (with_reducible first | exact HB.out | apply below_alloc | apply pw_below_drewN | apply below_drew1) | exact HB.out)) hb); have n1_ := Aside0.mk (hbox); have n2_ := Aside0.mk ((by rw [hg]; exact (below_size (by repeat (first | (with_reducible first | exact HB.out | apply below_alloc | apply pw_below_drewN | apply below_drew1) | exact HB.out))) : w.heap.size ≤ gb106)); have n3_ := Aside0.mk ((by rw [hg]; exact (below_size (by repeat (first | (with_reducible first | exact HB.out | apply below_alloc | apply pw_below_drewN | apply below_drew1) | exact HB.out))) : w.heap.size ≤ gb106)); clear HB; have HB := n0_; have BK106 := n1_; have GW106 := n2_; have GE106 := n3_; clear n0_ n1_ n2_ n3_; clear hb hbox hg))
  (try simp only [Act.put, List.setIfInBounds_toArray, List.set_cons_zero, List.set_cons_succ])
  go_cut [33] (fun v33 wc => ∃ (kq : Nat) (x33_1 : Bool), v33 = .bool x33_1 ∧ Aside0 (ciceroneref43_May.j0 kq x33_1 a0_0 a0_1 a0_2 l0_3 a0_4 = some r) ∧ Aside0 (kq ≤ k) ∧ Aside0 (wc.heap[gb106]? = some (.cells #[.int .i64 a0_0, .int .i64 a0_1, .string a0_2, (.slice A0_3 l0_3.length c0_3), .int .u64 a0_4] 30 (0, 0))) ∧ Aside0 (Below w.heap.size w wc))
  case first =>
    have H := HC2.out
    clear HC2
    by_cases c4 : a0_0 < 0
    · rw [if_pos c4] at H
      have c4b0 : decide (a0_0 < 0) = true := decide_eq_true c4
      clear c4
      (first | rw [c4b0] | (simp only [i64_w, i32_w]; rw [c4b0]) | skip)
      have H' := Aside0.mk H
      clear H
      have hcz5_0 : w3.cell? ⟨gb106, 0, none⟩ = some (.int .i64 a0_0) := (blk_cell BK106.out 0).trans rfl
      have hcz5_1 : w3.cell? ⟨gb106, 1, none⟩ = some (.int .i64 a0_1) := (blk_cell BK106.out 1).trans rfl
      have hcz5_2 : w3.cell? ⟨gb106, 2, none⟩ = some (.string a0_2) := (blk_cell BK106.out 2).trans rfl
      have hcz5_3 : w3.cell? ⟨gb106, 3, none⟩ = some (.slice A0_3 l0_3.length c0_3) := (blk_cell BK106.out 3).trans rfl
      have hcz5_4 : w3.cell? ⟨gb106, 4, none⟩ = some (.int .u64 a0_4) := (blk_cell BK106.out 4).trans rfl
      have hfz5_0 := blk_frozen BK106.out 0
      have hfz5_1 := blk_frozen BK106.out 1
      have hfz5_2 := blk_frozen BK106.out 2
      have hfz5_3 := blk_frozen BK106.out 3
      have hfz5_4 := blk_frozen BK106.out 4
      go_wp2
      go_meet
      case rel => exact ⟨_, (true), (by first | rfl | (simp; done) | (simp [*]; done)), H', ⟨by first | omega | exact Nat.le_refl _⟩, ⟨by (with_reducible repeat (first | refine blk_drewN ?_ _ | refine blk_drew ?_ | refine blk_alloc ?_ _)); exact BK106.out⟩, ⟨by repeat (first | (with_reducible first | exact HB.out | apply below_alloc | apply pw_below_drewN | apply below_drew1 | refine below_set ?_ GE106.out) | exact HB.out)⟩⟩
    · rw [if_neg c4] at H
      have c4b0 : decide (a0_0 < 0) = false := decide_eq_false c4
      clear c4
      (first | rw [c4b0] | (simp only [i64_w, i32_w]; rw [c4b0]) | skip)
      by_cases c6 : a0_0 > 1048576
      · rw [if_pos c6] at H
        have c6b0 : decide (1048576 < a0_0) = true := decide_eq_true c6
        clear c6
        have H' := Aside0.mk H
        clear H
        have hcz7_0 : w3.cell? ⟨gb106, 0, none⟩ = some (.int .i64 a0_0) := (blk_cell BK106.out 0).trans rfl
        have hcz7_1 : w3.cell? ⟨gb106, 1, none⟩ = some (.int .i64 a0_1) := (blk_cell BK106.out 1).trans rfl
        have hcz7_2 : w3.cell? ⟨gb106, 2, none⟩ = some (.string a0_2) := (blk_cell BK106.out 2).trans rfl
        have hcz7_3 : w3.cell? ⟨gb106, 3, none⟩ = some (.slice A0_3 l0_3.length c0_3) := (blk_cell BK106.out 3).trans rfl
        have hcz7_4 : w3.cell? ⟨gb106, 4, none⟩ = some (.int .u64 a0_4) := (blk_cell BK106.out 4).trans rfl
        have hfz7_0 := blk_frozen BK106.out 0
        have hfz7_1 := blk_frozen BK106.out 1
        have hfz7_2 := blk_frozen BK106.out 2
        have hfz7_3 := blk_frozen BK106.out 3
        have hfz7_4 := blk_frozen BK106.out 4
        go_wp2
        go_meet
        case rel => exact ⟨_, (true), (by first | rfl | (simp; done) | (simp [*]; done)), H', ⟨by first | omega | exact Nat.le_refl _⟩, ⟨by (with_reducible repeat (first | refine blk_drewN ?_ _ | refine blk_drew ?_ | refine blk_alloc ?_ _)); exact BK106.out⟩, ⟨by repeat (first | (with_reducible first | exact HB.out | apply below_alloc | apply pw_below_drewN | apply below_drew1 | refine below_set ?_ GE106.out) | exact HB.out)⟩⟩
      · rw [if_neg c6] at H
        have c6b0 : decide (1048576 < a0_0) = false := decide_eq_false c6
        clear c6
        by_cases c8 : a0_1 < 0
        · rw [if_pos c8] at H
          have c8b0 : decide (a0_1 < 0) = true := decide_eq_true c8
          clear c8
          have H' := Aside0.mk H
          clear H
          have hcz9_0 : w3.cell? ⟨gb106, 0, none⟩ = some (.int .i64 a0_0) := (blk_cell BK106.out 0).trans rfl
          have hcz9_1 : w3.cell? ⟨gb106, 1, none⟩ = some (.int .i64 a0_1) := (blk_cell BK106.out 1).trans rfl
          have hcz9_2 : w3.cell? ⟨gb106, 2, none⟩ = some (.string a0_2) := (blk_cell BK106.out 2).trans rfl
          have hcz9_3 : w3.cell? ⟨gb106, 3, none⟩ = some (.slice A0_3 l0_3.length c0_3) := (blk_cell BK106.out 3).trans rfl
          have hcz9_4 : w3.cell? ⟨gb106, 4, none⟩ = some (.int .u64 a0_4) := (blk_cell BK106.out 4).trans rfl
          have hfz9_0 := blk_frozen BK106.out 0
          have hfz9_1 := blk_frozen BK106.out 1
          have hfz9_2 := blk_frozen BK106.out 2
          have hfz9_3 := blk_frozen BK106.out 3
          have hfz9_4 := blk_frozen BK106.out 4
          go_wp2
          go_meet
          case rel => exact ⟨_, (true), (by first | rfl | (simp; done) | (simp [*]; done)), H', ⟨by first | omega | exact Nat.le_refl _⟩, ⟨by (with_reducible repeat (first | refine blk_drewN ?_ _ | refine blk_drew ?_ | refine blk_alloc ?_ _)); exact BK106.out⟩, ⟨by repeat (first | (with_reducible first | exact HB.out | apply below_alloc | apply pw_below_drewN | apply below_drew1 | refine below_set ?_ GE106.out) | exact HB.out)⟩⟩
        · rw [if_neg c8] at H
          have c8b0 : decide (a0_1 < 0) = false := decide_eq_false c8
          clear c8
          by_cases c10 : a0_1 > 1099511627776
          · rw [if_pos c10] at H
            have c10b0 : decide (1099511627776 < a0_1) = true := decide_eq_true c10
            clear c10
            have H' := Aside0.mk H
            clear H
            have hcz11_0 : w3.cell? ⟨gb106, 0, none⟩ = some (.int .i64 a0_0) := (blk_cell BK106.out 0).trans rfl
            have hcz11_1 : w3.cell? ⟨gb106, 1, none⟩ = some (.int .i64 a0_1) := (blk_cell BK106.out 1).trans rfl
            have hcz11_2 : w3.cell? ⟨gb106, 2, none⟩ = some (.string a0_2) := (blk_cell BK106.out 2).trans rfl
            have hcz11_3 : w3.cell? ⟨gb106, 3, none⟩ = some (.slice A0_3 l0_3.length c0_3) := (blk_cell BK106.out 3).trans rfl
            have hcz11_4 : w3.cell? ⟨gb106, 4, none⟩ = some (.int .u64 a0_4) := (blk_cell BK106.out 4).trans rfl
            have hfz11_0 := blk_frozen BK106.out 0
            have hfz11_1 := blk_frozen BK106.out 1
            have hfz11_2 := blk_frozen BK106.out 2
            have hfz11_3 := blk_frozen BK106.out 3
            have hfz11_4 := blk_frozen BK106.out 4
            go_wp2
            go_meet
            case rel => exact ⟨_, (true), (by first | rfl | (simp; done) | (simp [*]; done)), H', ⟨by first | omega | exact Nat.le_refl _⟩, ⟨by (with_reducible repeat (first | refine blk_drewN ?_ _ | refine blk_drew ?_ | refine blk_alloc ?_ _)); exact BK106.out⟩, ⟨by repeat (first | (with_reducible first | exact HB.out | apply below_alloc | apply pw_below_drewN | apply below_drew1 | refine below_set ?_ GE106.out) | exact HB.out)⟩⟩
          · rw [if_neg c10] at H
            have c10b0 : decide (1099511627776 < a0_1) = false := decide_eq_false c10
            clear c10
            replace H := Option.bind_eq_some_iff.mp H
            obtain ⟨t107, A120, H⟩ := H
            replace H : (if t107 = true then (ciceroneref43_May.j0 k (decide ((l0_3.length : Int) > 1000)) a0_0 a0_1 a0_2 l0_3 a0_4) else (ciceroneref43_May.j0 k true a0_0 a0_1 a0_2 l0_3 a0_4)) = some r := H
            have A12 := Aside0.mk A120
            clear A120
            by_cases c13 : t107 = true
            · subst c13
              have H1 : (ciceroneref43_May.j0 k (decide ((l0_3.length : Int) > 1000)) a0_0 a0_1 a0_2 l0_3 a0_4) = some r := by rw [if_pos rfl] at H; exact H
              clear H
              have H := H1
              clear H1
              have H' := Aside0.mk H
              clear H
              have hcz14_0 : w3.cell? ⟨gb106, 0, none⟩ = some (.int .i64 a0_0) := (blk_cell BK106.out 0).trans rfl
              have hcz14_1 : w3.cell? ⟨gb106, 1, none⟩ = some (.int .i64 a0_1) := (blk_cell BK106.out 1).trans rfl
              have hcz14_2 : w3.cell? ⟨gb106, 2, none⟩ = some (.string a0_2) := (blk_cell BK106.out 2).trans rfl
              have hcz14_3 : w3.cell? ⟨gb106, 3, none⟩ = some (.slice A0_3 l0_3.length c0_3) := (blk_cell BK106.out 3).trans rfl
              have hcz14_4 : w3.cell? ⟨gb106, 4, none⟩ = some (.int .u64 a0_4) := (blk_cell BK106.out 4).trans rfl
              have hfz14_0 := blk_frozen BK106.out 0
              have hfz14_1 := blk_frozen BK106.out 1
              have hfz14_2 := blk_frozen BK106.out 2
              have hfz14_3 := blk_frozen BK106.out 3
              have hfz14_4 := blk_frozen BK106.out 4
              go_wp2_with (first | (go_at_call 23; (with_reducible refine (ciceroneref02_Name.calls k a0_2 true _ A12.out).mono ?_); rintro e w' ⟨rfl, ⟨nd, rfl⟩⟩))
              go_meet
              case rel => exact ⟨_, (decide ((l0_3.length : Int) > 1000)), (by first | rfl | (simp; done) | (simp [*]; done)), H', ⟨by first | omega | exact Nat.le_refl _⟩, ⟨by (with_reducible repeat (first | refine blk_drewN ?_ _ | refine blk_drew ?_ | refine blk_alloc ?_ _)); exact BK106.out⟩, ⟨by repeat (first | (with_reducible first | exact HB.out | apply below_alloc | apply pw_below_drewN | apply below_drew1 | refine below_set ?_ GE106.out) | exact HB.out)⟩⟩
            · replace c13 := Bool.eq_false_iff.mpr c13
              subst c13
              have H1 : (ciceroneref43_May.j0 k true a0_0 a0_1 a0_2 l0_3 a0_4) = some r := by rw [if_neg (show ¬ (false = true) by decide)] at H; exact H
              clear H
              have H := H1
              clear H1
              have H' := Aside0.mk H
              clear H
              have hcz15_0 : w3.cell? ⟨gb106, 0, none⟩ = some (.int .i64 a0_0) := (blk_cell BK106.out 0).trans rfl
              have hcz15_1 : w3.cell? ⟨gb106, 1, none⟩ = some (.int .i64 a0_1) := (blk_cell BK106.out 1).trans rfl
              have hcz15_2 : w3.cell? ⟨gb106, 2, none⟩ = some (.string a0_2) := (blk_cell BK106.out 2).trans rfl
              have hcz15_3 : w3.cell? ⟨gb106, 3, none⟩ = some (.slice A0_3 l0_3.length c0_3) := (blk_cell BK106.out 3).trans rfl
              have hcz15_4 : w3.cell? ⟨gb106, 4, none⟩ = some (.int .u64 a0_4) := (blk_cell BK106.out 4).trans rfl
              have hfz15_0 := blk_frozen BK106.out 0
              have hfz15_1 := blk_frozen BK106.out 1
              have hfz15_2 := blk_frozen BK106.out 2
              have hfz15_3 := blk_frozen BK106.out 3
              have hfz15_4 := blk_frozen BK106.out 4
              go_wp2_with (first | (go_at_call 23; (with_reducible refine (ciceroneref02_Name.calls k a0_2 false _ A12.out).mono ?_); rintro e w' ⟨rfl, ⟨nd, rfl⟩⟩))
              go_meet
              case rel => exact ⟨_, (true), (by first | rfl | (simp; done) | (simp [*]; done)), H', ⟨by first | omega | exact Nat.le_refl _⟩, ⟨by (with_reducible repeat (first | refine blk_drewN ?_ _ | refine blk_drew ?_ | refine blk_alloc ?_ _)); exact BK106.out⟩, ⟨by repeat (first | (with_reducible first | exact HB.out | apply below_alloc | apply pw_below_drewN | apply below_drew1 | refine below_set ?_ GE106.out) | exact HB.out)⟩⟩
  case rest =>
    clear HC2
    try clear c1
    try clear p2
    try clear c4
    try clear c4b0
    try clear c6
    try clear c6b0
    try clear c8
    try clear c8b0
    try clear c10
    try clear c10b0
    try clear c13
    try clear hcz11_0
    try clear hcz11_1
    try clear hcz11_2
    try clear hcz11_3
    try clear hcz11_4
    try clear hcz14_0
    try clear hcz14_1
    try clear hcz14_2
    try clear hcz14_3
    try clear hcz14_4
    try clear hcz15_0
    try clear hcz15_1
    try clear hcz15_2
    try clear hcz15_3
    try clear hcz15_4
    try clear hcz5_0
    try clear hcz5_1
    try clear hcz5_2
    try clear hcz5_3
    try clear hcz5_4
    try clear hcz7_0
    try clear hcz7_1
    try clear hcz7_2
    try clear hcz7_3
    try clear hcz7_4
    try clear hcz9_0
    try clear hcz9_1
    try clear hcz9_2
    try clear hcz9_3
    try clear hcz9_4
    try clear hfz11_0
    try clear hfz11_1
    try clear hfz11_2
    try clear hfz11_3
    try clear hfz11_4
    try clear hfz14_0
    try clear hfz14_1
    try clear hfz14_2
    try clear hfz14_3
    try clear hfz14_4
    try clear hfz15_0
    try clear hfz15_1
    try clear hfz15_2
    try clear hfz15_3
    try clear hfz15_4
    try clear hfz5_0
    try clear hfz5_1
    try clear hfz5_2
    try clear hfz5_3
    try clear hfz5_4
    try clear hfz7_0
    try clear hfz7_1
    try clear hfz7_2
    try clear hfz7_3
    try clear hfz7_4
    try clear hfz9_0
    try clear hfz9_1
    try clear hfz9_2
    try clear hfz9_3
    try clear hfz9_4
    obtain ⟨kq, x33_1, rfl, HA, HJ1, BK106, HB⟩ := hcut
    cases kq with
    | zero => exact absurd HA.out (by simp [ciceroneref43_May.j0])
    | succ kj1 =>
      have H := HA.out
      clear HA
      simp only [ciceroneref43_May.j0] at H
      by_cases c16 : x33_1 = true
      · subst c16
        have H1 : (some false) = some r := by rw [if_pos rfl] at H; exact H
        clear H
        have H := H1
        clear H1
        obtain rfl := Option.some.inj H
        go_wp2
        go_ret
        exact ⟨by first | rfl | (simp [errW_none, errW_some] <;> rfl) | (simp [*, errW_none, errW_some] <;> rfl), by repeat (first | (with_reducible first | exact HB.out | apply below_alloc | apply pw_below_drewN | apply below_drew1 | refine below_set ?_ GE106.out) | exact HB.out)⟩
      · replace c16 := Bool.eq_false_iff.mpr c16
        subst c16
        have H1 : (ciceroneref43_May.l0 kj1 0 a0_0 a0_1 a0_2 l0_3 a0_4) = some r := by rw [if_neg (show ¬ (false = true) by decide)] at H; exact H
        clear H
        have H := H1
        clear H1
        have H' := Aside0.mk H
        clear H
        go_wp2
        go_loopg [3] kj1 (fun kq v3 w' => ∃ (x3_2 : Int), v3 = .int .i64 x3_2 ∧ Aside0 (ciceroneref43_May.l0 kq x3_2 a0_0 a0_1 a0_2 l0_3 a0_4 = some r) ∧ Aside0 (kq ≤ kj1) ∧ Aside0 (w'.heap[gb106]? = some (.cells #[.int .i64 a0_0, .int .i64 a0_1, .string a0_2, (.slice A0_3 l0_3.length c0_3), .int .u64 a0_4] 30 (0, 0))) ∧ Aside0 (Below w.heap.size w w'))
        case atStart => exact ⟨(0), (by first | rfl | (simp; done) | (simp [*]; done)), H', ⟨Nat.le_refl _⟩, ⟨by (with_reducible repeat (first | refine blk_drewN ?_ _ | refine blk_drew ?_ | refine blk_alloc ?_ _)); exact BK106.out⟩, ⟨by repeat (first | (with_reducible first | exact HB.out | apply below_alloc | apply pw_below_drewN | apply below_drew1 | refine below_set ?_ GE106.out) | exact HB.out)⟩⟩
        case round =>
          clear H'
          try clear c1
          try clear p2
          try clear c4
          try clear c4b0
          try clear c6
          try clear c6b0
          try clear c8
          try clear c8b0
          try clear c10
          try clear c10b0
          try clear c13
          try clear c16
          try clear hcz11_0
          try clear hcz11_1
          try clear hcz11_2
          try clear hcz11_3
          try clear hcz11_4
          try clear hcz14_0
          try clear hcz14_1
          try clear hcz14_2
          try clear hcz14_3
          try clear hcz14_4
          try clear hcz15_0
          try clear hcz15_1
          try clear hcz15_2
          try clear hcz15_3
          try clear hcz15_4
          try clear hcz5_0
          try clear hcz5_1
          try clear hcz5_2
          try clear hcz5_3
          try clear hcz5_4
          try clear hcz7_0
          try clear hcz7_1
          try clear hcz7_2
          try clear hcz7_3
          try clear hcz7_4
          try clear hcz9_0
          try clear hcz9_1
          try clear hcz9_2
          try clear hcz9_3
          try clear hcz9_4
          try clear hfz11_0
          try clear hfz11_1
          try clear hfz11_2
          try clear hfz11_3
          try clear hfz11_4
          try clear hfz14_0
          try clear hfz14_1
          try clear hfz14_2
          try clear hfz14_3
          try clear hfz14_4
          try clear hfz15_0
          try clear hfz15_1
          try clear hfz15_2
          try clear hfz15_3
          try clear hfz15_4
          try clear hfz5_0
          try clear hfz5_1
          try clear hfz5_2
          try clear hfz5_3
          try clear hfz5_4
          try clear hfz7_0
          try clear hfz7_1
          try clear hfz7_2
          try clear hfz7_3
          try clear hfz7_4
          try clear hfz9_0
          try clear hfz9_1
          try clear hfz9_2
          try clear hfz9_3
          try clear hfz9_4
          try clear p2
          obtain ⟨x3_2, rfl, HA, HK2, BK106, HB⟩ := hrel
          cases gk with
          | zero => exact absurd HA.out (by simp [ciceroneref43_May.l0])
          | succ k2 =>
            have H := HA.out
            clear HA
            simp only [ciceroneref43_May.l0] at H
            by_cases c17 : x3_2 < (l0_3.length : Int)
            · rw [if_pos c17] at H
              have c17b0 : decide (x3_2 < (l0_3.length : Int)) = true := decide_eq_true c17
              clear c17
              by_cases c18 : 0 ≤ x3_2
              · rw [if_pos c18] at H
                have c18b0 : decide (0 ≤ x3_2) = true := decide_eq_true c18
                clear c18
                replace H := Option.bind_eq_some_iff.mp H
                obtain ⟨t109, A190, H⟩ := H
                replace H : (if t109 = true then (ciceroneref43_May.l0 k2 (wrap64 (x3_2 + 1)) a0_0 a0_1 a0_2 l0_3 a0_4) else (some false)) = some r := H
                have A19 := Aside0.mk A190
                clear A190
                by_cases c20 : t109 = true
                · subst c20
                  have H1 : (ciceroneref43_May.l0 k2 (wrap64 (x3_2 + 1)) a0_0 a0_1 a0_2 l0_3 a0_4) = some r := by rw [if_pos rfl] at H; exact H
                  clear H
                  have H := H1
                  clear H1
                  have H' := Aside0.mk H
                  clear H
                  have hcz21_0 : wr.cell? ⟨gb106, 0, none⟩ = some (.int .i64 a0_0) := (blk_cell BK106.out 0).trans rfl
                  have hcz21_1 : wr.cell? ⟨gb106, 1, none⟩ = some (.int .i64 a0_1) := (blk_cell BK106.out 1).trans rfl
                  have hcz21_2 : wr.cell? ⟨gb106, 2, none⟩ = some (.string a0_2) := (blk_cell BK106.out 2).trans rfl
                  have hcz21_3 : wr.cell? ⟨gb106, 3, none⟩ = some (.slice A0_3 l0_3.length c0_3) := (blk_cell BK106.out 3).trans rfl
                  have hcz21_4 : wr.cell? ⟨gb106, 4, none⟩ = some (.int .u64 a0_4) := (blk_cell BK106.out 4).trans rfl
                  have hfz21_0 := blk_frozen BK106.out 0
                  have hfz21_1 := blk_frozen BK106.out 1
                  have hfz21_2 := blk_frozen BK106.out 2
                  have hfz21_3 := blk_frozen BK106.out 3
                  have hfz21_4 := blk_frozen BK106.out 4
                  have p108 : 0 ≤ (x3_2 : Int) := of_decide_eq_true (by first | (with_reducible assumption) | assumption)
                  have q108 : x3_2 < (l0_3.length : Int) := of_decide_eq_true (by first | (with_reducible assumption) | assumption)
                  obtain ⟨ad108, e108, hx108_0⟩ := Kd.at_string HR0_3.out x3_2 p108 q108
                  cases e108
                  replace hx108_0 := (HB.out.cell (World.block_lt_of_cell? w _ hx108_0)).trans hx108_0
                  replace p108 := eq_true p108
                  replace q108 := eq_true q108
                  go_wp2_with (first | ((with_reducible refine gate_callee (f := 23) rfl ?_); refine goesL_ (some 46) rfl rfl Tryd.func23 (by kernel_rfl) rfl #[.string (rdOf ByteArray.empty l0_3 x3_2)] rfl (by (try simp only [List.map_toArray, List.map_cons, List.map_nil]); first | done | rfl | (simp only [List.length_drop, List.length_take]; rfl)) ?_; (with_reducible refine (ciceroneref02_Name.calls k2 (rdOf ByteArray.empty l0_3 x3_2) true _ A19.out).mono ?_); rintro e w' ⟨rfl, ⟨nd, rfl⟩⟩; refine ⟨_, rfl, ?_⟩))
                  go_roundg k2
                  case measure => have := HJ1.out; have := HK2.out; omega
                  case rel => exact ⟨(wrap64 (x3_2 + 1)), (by first | rfl | (simp; done) | (simp [*]; done)), H', ⟨by have := HJ1.out; have := HK2.out; omega⟩, ⟨by (with_reducible repeat (first | refine blk_drewN ?_ _ | refine blk_drew ?_ | refine blk_alloc ?_ _)); exact BK106.out⟩, ⟨by repeat (first | (with_reducible first | exact HB.out | apply below_alloc | apply pw_below_drewN | apply below_drew1 | refine below_set ?_ GE106.out) | exact HB.out)⟩⟩
                · replace c20 := Bool.eq_false_iff.mpr c20
                  subst c20
                  have H1 : (some false) = some r := by rw [if_neg (show ¬ (false = true) by decide)] at H; exact H
                  clear H
                  have H := H1
                  clear H1
                  obtain rfl := Option.some.inj H
                  have hcz22_0 : wr.cell? ⟨gb106, 0, none⟩ = some (.int .i64 a0_0) := (blk_cell BK106.out 0).trans rfl
                  have hcz22_1 : wr.cell? ⟨gb106, 1, none⟩ = some (.int .i64 a0_1) := (blk_cell BK106.out 1).trans rfl
                  have hcz22_2 : wr.cell? ⟨gb106, 2, none⟩ = some (.string a0_2) := (blk_cell BK106.out 2).trans rfl
                  have hcz22_3 : wr.cell? ⟨gb106, 3, none⟩ = some (.slice A0_3 l0_3.length c0_3) := (blk_cell BK106.out 3).trans rfl
                  have hcz22_4 : wr.cell? ⟨gb106, 4, none⟩ = some (.int .u64 a0_4) := (blk_cell BK106.out 4).trans rfl
                  have hfz22_0 := blk_frozen BK106.out 0
                  have hfz22_1 := blk_frozen BK106.out 1
                  have hfz22_2 := blk_frozen BK106.out 2
                  have hfz22_3 := blk_frozen BK106.out 3
                  have hfz22_4 := blk_frozen BK106.out 4
                  have p108 : 0 ≤ (x3_2 : Int) := of_decide_eq_true (by first | (with_reducible assumption) | assumption)
                  have q108 : x3_2 < (l0_3.length : Int) := of_decide_eq_true (by first | (with_reducible assumption) | assumption)
                  obtain ⟨ad108, e108, hx108_0⟩ := Kd.at_string HR0_3.out x3_2 p108 q108
                  cases e108
                  replace hx108_0 := (HB.out.cell (World.block_lt_of_cell? w _ hx108_0)).trans hx108_0
                  replace p108 := eq_true p108
                  replace q108 := eq_true q108
                  go_wp2_with (first | ((with_reducible refine gate_callee (f := 23) rfl ?_); refine goesL_ (some 46) rfl rfl Tryd.func23 (by kernel_rfl) rfl #[.string (rdOf ByteArray.empty l0_3 x3_2)] rfl (by (try simp only [List.map_toArray, List.map_cons, List.map_nil]); first | done | rfl | (simp only [List.length_drop, List.length_take]; rfl)) ?_; (with_reducible refine (ciceroneref02_Name.calls k2 (rdOf ByteArray.empty l0_3 x3_2) false _ A19.out).mono ?_); rintro e w' ⟨rfl, ⟨nd, rfl⟩⟩; refine ⟨_, rfl, ?_⟩))
                  go_ret
                  exact ⟨by first | rfl | (simp [errW_none, errW_some] <;> rfl) | (simp [*, errW_none, errW_some] <;> rfl), by repeat (first | (with_reducible first | exact HB.out | apply below_alloc | apply pw_below_drewN | apply below_drew1 | refine below_set ?_ GE106.out) | exact HB.out)⟩
              · rw [if_neg c18] at H
                exact absurd H (by simp)
            · rw [if_neg c17] at H
              have c17b0 : decide (x3_2 < (l0_3.length : Int)) = false := decide_eq_false c17
              clear c17
              obtain rfl := Option.some.inj H
              have hcz23_0 : wr.cell? ⟨gb106, 0, none⟩ = some (.int .i64 a0_0) := (blk_cell BK106.out 0).trans rfl
              have hcz23_1 : wr.cell? ⟨gb106, 1, none⟩ = some (.int .i64 a0_1) := (blk_cell BK106.out 1).trans rfl
              have hcz23_2 : wr.cell? ⟨gb106, 2, none⟩ = some (.string a0_2) := (blk_cell BK106.out 2).trans rfl
              have hcz23_3 : wr.cell? ⟨gb106, 3, none⟩ = some (.slice A0_3 l0_3.length c0_3) := (blk_cell BK106.out 3).trans rfl
              have hcz23_4 : wr.cell? ⟨gb106, 4, none⟩ = some (.int .u64 a0_4) := (blk_cell BK106.out 4).trans rfl
              have hfz23_0 := blk_frozen BK106.out 0
              have hfz23_1 := blk_frozen BK106.out 1
              have hfz23_2 := blk_frozen BK106.out 2
              have hfz23_3 := blk_frozen BK106.out 3
              have hfz23_4 := blk_frozen BK106.out 4
              go_wp2
              go_ret
              exact ⟨by first | rfl | (simp [errW_none, errW_some] <;> rfl) | (simp [*, errW_none, errW_some] <;> rfl), by repeat (first | (with_reducible first | exact HB.out | apply below_alloc | apply pw_below_drewN | apply below_drew1 | refine below_set ?_ GE106.out) | exact HB.out)⟩

/-! ### ciceroneref26_Hash: function 22 -/
mutual
def ciceroneref26_Hash.l0 : Nat → List ByteArray → Int → Int → Option (Int)
  | 0, _, _, _ => none
  | k + 1, x1, x5, x6 => if x6 < (x1.length : Int) then (ciceroneref26_Hash.l1 k x1 x5 x6 0) else (some (Go.bits .xor .u64 (IntKind.u64.wrap ((Go.bits .xor .u64 (IntKind.u64.wrap ((Go.bits .xor .u64 x5 (x5 / 2147483648)) * 9202087104158670213)) ((IntKind.u64.wrap ((Go.bits .xor .u64 x5 (x5 / 2147483648)) * 9202087104158670213)) / 134217728)) * 9356908073163150413)) ((IntKind.u64.wrap ((Go.bits .xor .u64 (IntKind.u64.wrap ((Go.bits .xor .u64 x5 (x5 / 2147483648)) * 9202087104158670213)) ((IntKind.u64.wrap ((Go.bits .xor .u64 x5 (x5 / 2147483648)) * 9202087104158670213)) / 134217728)) * 9356908073163150413)) / 8589934592)))
def ciceroneref26_Hash.l1 : Nat → List ByteArray → Int → Int → Int → Option (Int)
  | 0, _, _, _, _ => none
  | k + 1, x1, x5, x6, x7 => if 0 ≤ x6 then (if x6 < (x1.length : Int) then (if x7 ≤ ((rdOf ByteArray.empty x1 x6).size : Int) then (if x7 < ((rdOf ByteArray.empty x1 x6).size : Int) then (if 0 ≤ x7 then (ciceroneref26_Hash.l1 k x1 (IntKind.u64.wrap ((Go.bits .xor .u64 x5 (IntKind.u64.wrap (bt (rdOf ByteArray.empty x1 x6) x7))) * 1099511628211)) x6 (wrap64 (x7 + 1))) else (none)) else (ciceroneref26_Hash.l1 k x1 (IntKind.u64.wrap ((Go.bits .xor .u64 x5 256) * 1099511628211)) x6 (wrap64 (x7 + 1)))) else (ciceroneref26_Hash.l0 k x1 x5 (wrap64 (x6 + 1)))) else (none)) else (none)
end
def ciceroneref26_Hash.f (k : Nat) (a0 : Int) (l1 : List ByteArray) : Option (Int) := ciceroneref26_Hash.l0 k l1 (IntKind.u64.wrap (a0 + 11400714819323198485)) 0
theorem ciceroneref26_Hash.mono_l : ∀ k, (∀ y0 y1 y2, LeO (ciceroneref26_Hash.l0 k y0 y1 y2) (ciceroneref26_Hash.l0 (k + 1) y0 y1 y2)) ∧ (∀ y0 y1 y2 y3, LeO (ciceroneref26_Hash.l1 k y0 y1 y2 y3) (ciceroneref26_Hash.l1 (k + 1) y0 y1 y2 y3))
  | 0 => ⟨fun _ _ _ r h => by simp [ciceroneref26_Hash.l0] at h, fun _ _ _ _ r h => by simp [ciceroneref26_Hash.l1] at h⟩
  | k + 1 => by
    obtain ⟨ih0, ih1⟩ := ciceroneref26_Hash.mono_l k
    refine ⟨?_, ?_⟩
    · intro y0 y1 y2
      unfold ciceroneref26_Hash.l0
      repeat' first
      | (with_reducible exact ih0 _ _ _)
      | (with_reducible exact ih1 _ _ _ _)
      | (with_reducible exact LeO.refl _)
      | (with_reducible exact LeO.none _)
      | (with_reducible refine LeO.ite ?_ ?_)
      | (with_reducible refine LeO.bind ?_ (fun _ => ?_))
      | exact ih0 _ _ _
      | exact ih1 _ _ _ _
      | exact LeO.none _
      | refine LeO.ite ?_ ?_
      | refine LeO.bind ?_ (fun _ => ?_)
    · intro y0 y1 y2 y3
      unfold ciceroneref26_Hash.l1
      repeat' first
      | (with_reducible exact ih0 _ _ _)
      | (with_reducible exact ih1 _ _ _ _)
      | (with_reducible exact LeO.refl _)
      | (with_reducible exact LeO.none _)
      | (with_reducible refine LeO.ite ?_ ?_)
      | (with_reducible refine LeO.bind ?_ (fun _ => ?_))
      | exact ih0 _ _ _
      | exact ih1 _ _ _ _
      | exact LeO.none _
      | refine LeO.ite ?_ ?_
      | refine LeO.bind ?_ (fun _ => ?_)
theorem ciceroneref26_Hash.mono : ∀ a0 a1 k, LeO (ciceroneref26_Hash.f k a0 a1) (ciceroneref26_Hash.f (k + 1) a0 a1) := by
  intro a0 a1 k
  obtain ⟨ih0, ih1⟩ := ciceroneref26_Hash.mono_l k
  unfold ciceroneref26_Hash.f
  repeat' first
      | (with_reducible exact ih0 _ _ _)
      | (with_reducible exact ih1 _ _ _ _)
      | (with_reducible exact LeO.refl _)
      | (with_reducible exact LeO.none _)
      | (with_reducible refine LeO.ite ?_ ?_)
      | (with_reducible refine LeO.bind ?_ (fun _ => ?_))
      | exact ih0 _ _ _
      | exact ih1 _ _ _ _
      | exact LeO.none _
      | refine LeO.ite ?_ ?_
      | refine LeO.bind ?_ (fun _ => ?_)
set_option maxHeartbeats 8000000 in
set_option maxRecDepth 100000 in
theorem ciceroneref26_Hash.calls (k : Nat) (a0 : Int) (A1 : Option Addr) (c1 : Nat) (l1 : List ByteArray) (r : Int) (w : World) (hr1 : Kd.C Kd.string w A1 l1.length l1) (hc1 : l1.length ≤ c1) (h : ciceroneref26_Hash.f k a0 l1 = some r) :
    Calls Tryd.prog 22 #[.int .u64 a0, .slice A1 l1.length c1] w fun e w' => e = .returned (.int .u64 r) ∧ Drawn0 w w' := by
  have HR1 := Aside0.mk hr1
  have HC1 := Aside0.mk hc1
  clear hr1 hc1
  have H : (ciceroneref26_Hash.l0 k l1 (IntKind.u64.wrap (a0 + 11400714819323198485)) 0) = some r := h
  clear h
  have H' := Aside0.mk H
  clear H
  go_enter Tryd.func22, Tryd.ntmps22
  go_wp2
  go_loopg [5, 6] k (fun kq v5 v6 w' => ∃ (x5_1 : Int) (x6_1 : Int), v5 = .int .u64 x5_1 ∧ v6 = .int .i64 x6_1 ∧ Aside0 (ciceroneref26_Hash.l0 kq l1 x5_1 x6_1 = some r) ∧ Aside0 (kq ≤ k) ∧ Drawn0 w w')
  case atStart => exact ⟨(IntKind.u64.wrap (a0 + 11400714819323198485)), (0), (by first | rfl | (simp; done) | (simp [*]; done)), (by first | rfl | (simp; done) | (simp [*]; done)), H', ⟨Nat.le_refl _⟩, by repeat (first | exact Drawn0.refl _ | apply Drawn0.step)⟩
  case round =>
    clear H'
    try clear c1
    try clear c2
    try clear p2
    obtain ⟨x5_1, x6_1, rfl, rfl, HA, HK1, ⟨m1, rfl⟩⟩ := hrel
    cases gk with
    | zero => exact absurd HA.out (by simp [ciceroneref26_Hash.l0])
    | succ k1 =>
      have H := HA.out
      clear HA
      simp only [ciceroneref26_Hash.l0] at H
      by_cases c3 : x6_1 < (l1.length : Int)
      · rw [if_pos c3] at H
        have c3b0 : decide (x6_1 < (l1.length : Int)) = true := decide_eq_true c3
        clear c3
        have H' := Aside0.mk H
        clear H
        go_wp2
        go_loopg [5, 7] k1 (fun kq v5 v7 w' => ∃ (x5_2 : Int) (x7_2 : Int), v5 = .int .u64 x5_2 ∧ v7 = .int .i64 x7_2 ∧ Aside0 (ciceroneref26_Hash.l1 kq l1 x5_2 x6_1 x7_2 = some r) ∧ Aside0 (kq ≤ k1) ∧ Drawn0 w w')
        case atStart => exact ⟨(x5_1), (0), (by first | rfl | (simp; done) | (simp [*]; done)), (by first | rfl | (simp; done) | (simp [*]; done)), H', ⟨Nat.le_refl _⟩, by repeat (first | exact Drawn0.refl _ | apply Drawn0.step)⟩
        case round =>
          clear H'
          try clear c1
          try clear c2
          try clear p2
          try clear c3
          try clear c3b0
          try clear p2
          obtain ⟨x5_2, x7_2, rfl, rfl, HA, HK2, ⟨m2, rfl⟩⟩ := hrel
          cases gk with
          | zero => exact absurd HA.out (by simp [ciceroneref26_Hash.l1])
          | succ k2 =>
            have H := HA.out
            clear HA
            simp only [ciceroneref26_Hash.l1] at H
            by_cases c4 : 0 ≤ x6_1
            · rw [if_pos c4] at H
              have c4b0 : decide (0 ≤ x6_1) = true := decide_eq_true c4
              clear c4
              by_cases c5 : x6_1 < (l1.length : Int)
              · rw [if_pos c5] at H
                have c5b0 : decide (x6_1 < (l1.length : Int)) = true := decide_eq_true c5
                clear c5
                by_cases c6 : x7_2 ≤ ((rdOf ByteArray.empty l1 x6_1).size : Int)
                · rw [if_pos c6] at H
                  have c6b0 : decide (x7_2 ≤ ((rdOf ByteArray.empty l1 x6_1).size : Int)) = true := decide_eq_true c6
                  clear c6
                  by_cases c7 : x7_2 < ((rdOf ByteArray.empty l1 x6_1).size : Int)
                  · rw [if_pos c7] at H
                    have c7b0 : decide (x7_2 < ((rdOf ByteArray.empty l1 x6_1).size : Int)) = true := decide_eq_true c7
                    clear c7
                    by_cases c8 : 0 ≤ x7_2
                    · rw [if_pos c8] at H
                      have c8b0 : decide (0 ≤ x7_2) = true := decide_eq_true c8
                      clear c8
                      have H' := Aside0.mk H
                      clear H
                      have p110 : 0 ≤ (x6_1 : Int) := of_decide_eq_true (by first | (with_reducible assumption) | assumption)
                      have q110 : x6_1 < (l1.length : Int) := of_decide_eq_true (by first | (with_reducible assumption) | assumption)
                      obtain ⟨ad110, e110, hx110_0⟩ := Kd.at_string HR1.out x6_1 p110 q110
                      cases e110
                      replace p110 := eq_true p110
                      replace q110 := eq_true q110
                      have p111 : 0 ≤ (x6_1 : Int) := of_decide_eq_true (by first | (with_reducible assumption) | assumption)
                      have q111 : x6_1 < (l1.length : Int) := of_decide_eq_true (by first | (with_reducible assumption) | assumption)
                      obtain ⟨ad111, e111, hx111_0⟩ := Kd.at_string HR1.out x6_1 p111 q111
                      obtain rfl : ad110 = ad111 := (by injection e111)
                      replace p111 := eq_true p111
                      replace q111 := eq_true q111
                      have p112 : 0 ≤ (x6_1 : Int) := of_decide_eq_true (by first | (with_reducible assumption) | assumption)
                      have q112 : x6_1 < (l1.length : Int) := of_decide_eq_true (by first | (with_reducible assumption) | assumption)
                      obtain ⟨ad112, e112, hx112_0⟩ := Kd.at_string HR1.out x6_1 p112 q112
                      obtain rfl : ad110 = ad112 := (by injection e112)
                      replace p112 := eq_true p112
                      replace q112 := eq_true q112
                      have p9 : 0 ≤ (x7_2 : Int) := of_decide_eq_true (by first | (with_reducible assumption) | assumption)
                      have q9 : x7_2 < ((rdOf ByteArray.empty l1 x6_1).size : Int) := of_decide_eq_true (by first | (with_reducible assumption) | assumption)
                      have hx9 := bt_at (rdOf ByteArray.empty l1 x6_1) x7_2
                      replace p9 := eq_true p9
                      replace q9 := eq_true q9
                      go_wp2
                      go_roundg k2
                      case measure => have := HK1.out; have := HK2.out; omega
                      case rel => exact ⟨(IntKind.u64.wrap ((Go.bits .xor .u64 x5_2 (IntKind.u64.wrap (bt (rdOf ByteArray.empty l1 x6_1) x7_2))) * 1099511628211)), (wrap64 (x7_2 + 1)), (by first | rfl | (simp; done) | (simp [*]; done)), (by first | rfl | (simp; done) | (simp [*]; done)), H', ⟨by have := HK1.out; have := HK2.out; omega⟩, by repeat (first | exact Drawn0.refl _ | apply Drawn0.step)⟩
                    · rw [if_neg c8] at H
                      exact absurd H (by simp)
                  · rw [if_neg c7] at H
                    have c7b0 : decide (x7_2 < ((rdOf ByteArray.empty l1 x6_1).size : Int)) = false := decide_eq_false c7
                    clear c7
                    have H' := Aside0.mk H
                    clear H
                    have p110 : 0 ≤ (x6_1 : Int) := of_decide_eq_true (by first | (with_reducible assumption) | assumption)
                    have q110 : x6_1 < (l1.length : Int) := of_decide_eq_true (by first | (with_reducible assumption) | assumption)
                    obtain ⟨ad110, e110, hx110_0⟩ := Kd.at_string HR1.out x6_1 p110 q110
                    cases e110
                    replace p110 := eq_true p110
                    replace q110 := eq_true q110
                    have p111 : 0 ≤ (x6_1 : Int) := of_decide_eq_true (by first | (with_reducible assumption) | assumption)
                    have q111 : x6_1 < (l1.length : Int) := of_decide_eq_true (by first | (with_reducible assumption) | assumption)
                    obtain ⟨ad111, e111, hx111_0⟩ := Kd.at_string HR1.out x6_1 p111 q111
                    obtain rfl : ad110 = ad111 := (by injection e111)
                    replace p111 := eq_true p111
                    replace q111 := eq_true q111
                    go_wp2
                    go_roundg k2
                    case measure => have := HK1.out; have := HK2.out; omega
                    case rel => exact ⟨(IntKind.u64.wrap ((Go.bits .xor .u64 x5_2 256) * 1099511628211)), (wrap64 (x7_2 + 1)), (by first | rfl | (simp; done) | (simp [*]; done)), (by first | rfl | (simp; done) | (simp [*]; done)), H', ⟨by have := HK1.out; have := HK2.out; omega⟩, by repeat (first | exact Drawn0.refl _ | apply Drawn0.step)⟩
                · rw [if_neg c6] at H
                  have c6b0 : decide (x7_2 ≤ ((rdOf ByteArray.empty l1 x6_1).size : Int)) = false := decide_eq_false c6
                  clear c6
                  have H' := Aside0.mk H
                  clear H
                  have p110 : 0 ≤ (x6_1 : Int) := of_decide_eq_true (by first | (with_reducible assumption) | assumption)
                  have q110 : x6_1 < (l1.length : Int) := of_decide_eq_true (by first | (with_reducible assumption) | assumption)
                  obtain ⟨ad110, e110, hx110_0⟩ := Kd.at_string HR1.out x6_1 p110 q110
                  cases e110
                  replace p110 := eq_true p110
                  replace q110 := eq_true q110
                  go_wp2
                  go_roundg k2
                  case measure => have := HK1.out; have := HK2.out; omega
                  case rel => exact ⟨(x5_2), (wrap64 (x6_1 + 1)), (by first | rfl | (simp; done) | (simp [*]; done)), (by first | rfl | (simp; done) | (simp [*]; done)), H', ⟨by have := HK1.out; have := HK2.out; omega⟩, by repeat (first | exact Drawn0.refl _ | apply Drawn0.step)⟩
              · rw [if_neg c5] at H
                exact absurd H (by simp)
            · rw [if_neg c4] at H
              exact absurd H (by simp)
      · rw [if_neg c3] at H
        have c3b0 : decide (x6_1 < (l1.length : Int)) = false := decide_eq_false c3
        clear c3
        obtain rfl := Option.some.inj H
        go_wp2
        go_ret
        exact ⟨by first | rfl | (simp; done) | (simp [*]; done), by repeat (first | exact Drawn0.refl _ | apply Drawn0.step)⟩

/-! ### ciceroneref02_Digits: function 24 -/
def ciceroneref02_Digits.l0 : Nat → Int → ByteArray → Option (ByteArray)
  | 0, _, _ => none
  | k + 1, x0, x3 => if x0 > 9 then ((some (([(wrap64 (48 + (Int.tmod x0 10))) % 256] : List Int) : List Int)).bind fun y113 => (if (strOfNums y113).size + x3.size ≤ 9223372036854775807 then (ciceroneref02_Digits.l0 k (wrap64 (Int.tdiv x0 10)) ((strOfNums y113) ++ x3)) else (none))) else ((some (([(wrap64 (48 + x0)) % 256] : List Int) : List Int)).bind fun y116 => (if (strOfNums y116).size + x3.size ≤ 9223372036854775807 then (some ((strOfNums y116) ++ x3)) else (none)))
def ciceroneref02_Digits.f (k : Nat) (a0 : Int) : Option (ByteArray) := ciceroneref02_Digits.l0 k a0 (⟨#[]⟩ : ByteArray)
theorem ciceroneref02_Digits.mono_l : ∀ k, (∀ y0 y1, LeO (ciceroneref02_Digits.l0 k y0 y1) (ciceroneref02_Digits.l0 (k + 1) y0 y1))
  | 0 => fun _ _ r h => by simp [ciceroneref02_Digits.l0] at h
  | k + 1 => by
    have ih0 := ciceroneref02_Digits.mono_l k
    · intro y0 y1
      unfold ciceroneref02_Digits.l0
      repeat' first
      | (with_reducible exact ih0 _ _)
      | (with_reducible exact LeO.refl _)
      | (with_reducible exact LeO.none _)
      | (with_reducible refine LeO.ite ?_ ?_)
      | (with_reducible refine LeO.bind ?_ (fun _ => ?_))
      | exact ih0 _ _
      | exact LeO.none _
      | refine LeO.ite ?_ ?_
      | refine LeO.bind ?_ (fun _ => ?_)
theorem ciceroneref02_Digits.mono : ∀ a0 k, LeO (ciceroneref02_Digits.f k a0) (ciceroneref02_Digits.f (k + 1) a0) := by
  intro a0 k
  have ih0 := ciceroneref02_Digits.mono_l k
  unfold ciceroneref02_Digits.f
  repeat' first
      | (with_reducible exact ih0 _ _)
      | (with_reducible exact LeO.refl _)
      | (with_reducible exact LeO.none _)
      | (with_reducible refine LeO.ite ?_ ?_)
      | (with_reducible refine LeO.bind ?_ (fun _ => ?_))
      | exact ih0 _ _
      | exact LeO.none _
      | refine LeO.ite ?_ ?_
      | refine LeO.bind ?_ (fun _ => ?_)
set_option maxHeartbeats 8000000 in
set_option maxRecDepth 100000 in
theorem ciceroneref02_Digits.calls (k : Nat) (a0 : Int) (r : ByteArray) (w : World) (h : ciceroneref02_Digits.f k a0 = some r) :
    Calls Tryd.prog 24 #[.int .i64 a0] w fun e w' => e = .returned (.string r) ∧ Below w.heap.size w w' := by
  have HB := Aside0.mk (Below.refl w.heap.size w)
  have H : (ciceroneref02_Digits.l0 k a0 (⟨#[]⟩ : ByteArray)) = some r := h
  clear h
  have H' := Aside0.mk H
  clear H
  go_enter Tryd.func24, Tryd.ntmps24
  go_wp2
  go_loopg [0, 3] k (fun kq v0 v3 w' => ∃ (x0_1 : Int) (x3_1 : ByteArray), v0 = .int .i64 x0_1 ∧ v3 = .string x3_1 ∧ Aside0 (ciceroneref02_Digits.l0 kq x0_1 x3_1 = some r) ∧ Aside0 (kq ≤ k) ∧ Aside0 (Below w.heap.size w w'))
  case atStart => exact ⟨(a0), ((⟨#[]⟩ : ByteArray)), (by first | rfl | (simp; done) | (simp [*]; done)), (by first | rfl | (simp; done) | (simp [*]; done)), H', ⟨Nat.le_refl _⟩, ⟨by repeat (first | (with_reducible first | exact HB.out | apply below_alloc | apply pw_below_drewN | apply below_drew1) | exact HB.out)⟩⟩
  case round =>
    clear H'
    obtain ⟨x0_1, x3_1, rfl, rfl, HA, HK1, HB⟩ := hrel
    cases gk with
    | zero => exact absurd HA.out (by simp [ciceroneref02_Digits.l0])
    | succ k1 =>
      have H := HA.out
      clear HA
      simp only [ciceroneref02_Digits.l0] at H
      by_cases c2 : x0_1 > 9
      · rw [if_pos c2] at H
        have c2b0 : decide (9 < x0_1) = true := decide_eq_true c2
        clear c2
        obtain ⟨y113, hy113⟩ : ∃ y_ : List Int, y_ = (([(wrap64 (48 + (Int.tmod x0_1 10))) % 256] : List Int)) := ⟨_, rfl⟩
        replace H : (if (strOfNums y113).size + x3_1.size ≤ 9223372036854775807 then (ciceroneref02_Digits.l0 k1 (wrap64 (Int.tdiv x0_1 10)) ((strOfNums y113) ++ x3_1)) else (none)) = some r := by first | (rw [hy113]; with_reducible exact H) | (have H2_ := (Option.bind_some _ _).symm.trans H; rw [hy113]; with_reducible exact H2_) | (have H2_ := (Option.bind_some _ _).symm.trans H; with_reducible exact H2_) | with_reducible exact H | (rw [hy113]; exact H) | exact H
        have Ny113 := Aside0.mk hy113
        clear hy113
        by_cases c3 : (strOfNums y113).size + x3_1.size ≤ 9223372036854775807
        · rw [if_pos c3] at H
          have c3b0 := eq_true c3
          have c3b1 : decide ((strOfNums y113).size + x3_1.size ≤ 9223372036854775807) = true := decide_eq_true c3
          try have c3b2 : (9223372036854775807 < (strOfNums y113).size + x3_1.size) = False := eq_false (Nat.not_lt.2 c3)
          have H' := Aside0.mk H
          clear H
          go_wp2_with (first | ((with_reducible refine gate_dst (N := 10) rfl ?_); refine Kd.R_lit (Kd.int .u8) _ 5 ?hg (N := 10) ?hd (xs := ([(wrap64 (48 + (Int.tmod x0_1 10))) % 256] : List Int)) (inner := [.int .u8 ((wrap64 (48 + (Int.tmod x0_1 10))) % 256)]) (ok := fun _ => True) (okp := fun _ => True) ?hr ?hp (fun _ hk => hk) trivial (Below.refl _ _) (Nat.le_refl _) (by simp) ?_; (case hd => rfl); (case hg => rfl); (case hr => first | (go_simp; done) | (go_simp; rfl)); (case hp => exact (Reps.one (show Kd.M (Kd.int .u8) _ _ _ ((wrap64 (48 + (Int.tmod x0_1 10))) % 256) [.int .u8 ((wrap64 (48 + (Int.tmod x0_1 10))) % 256)] from rfl) (Reps.none _ _))); intro v114 w4 ho5 hb hg_ hnew_; clear hg_ hnew_; (first | rw [← Ny113.out] at ho5 | (simp only [Int.reduceToNat] at ho5; rw [← Ny113.out] at ho5)); have n0_ := Aside0.mk (Kd.R_lower ho5 (below_size (by repeat (first | (with_reducible first | exact HB.out | apply below_alloc | apply pw_below_drewN | apply below_drew1) | exact HB.out)))); have n1_ := Aside0.mk (below_step (by repeat (first | (with_reducible first | exact HB.out | apply below_alloc | apply pw_below_drewN | apply below_drew1) | exact HB.out)) hb); clear HB; have HO115 := n0_; have HB := n1_; clear n0_ n1_; clear hb ho5; have hcv6 := own_string (P := Tryd.prog) Tryd.underlying39 Tryd.underlying5 Tryd.underlying9 (Kd.own_of_R HO115.out)))
          go_roundg k1
          case measure => have := HK1.out; omega
          case rel => exact ⟨(wrap64 (Int.tdiv x0_1 10)), ((strOfNums y113) ++ x3_1), (by first | rfl | (simp; done) | (simp [*]; done)), (by first | rfl | (simp; done) | (simp [*]; done)), H', ⟨by have := HK1.out; omega⟩, ⟨by repeat (first | (with_reducible first | exact HB.out | apply below_alloc | apply pw_below_drewN | apply below_drew1) | exact HB.out)⟩⟩
        · rw [if_neg c3] at H
          exact absurd H (by simp)
      · rw [if_neg c2] at H
        have c2b0 : decide (9 < x0_1) = false := decide_eq_false c2
        clear c2
        obtain ⟨y116, hy116⟩ : ∃ y_ : List Int, y_ = (([(wrap64 (48 + x0_1)) % 256] : List Int)) := ⟨_, rfl⟩
        replace H : (if (strOfNums y116).size + x3_1.size ≤ 9223372036854775807 then (some ((strOfNums y116) ++ x3_1)) else (none)) = some r := by first | (rw [hy116]; with_reducible exact H) | (have H2_ := (Option.bind_some _ _).symm.trans H; rw [hy116]; with_reducible exact H2_) | (have H2_ := (Option.bind_some _ _).symm.trans H; with_reducible exact H2_) | with_reducible exact H | (rw [hy116]; exact H) | exact H
        have Ny116 := Aside0.mk hy116
        clear hy116
        by_cases c7 : (strOfNums y116).size + x3_1.size ≤ 9223372036854775807
        · rw [if_pos c7] at H
          have c7b0 := eq_true c7
          have c7b1 : decide ((strOfNums y116).size + x3_1.size ≤ 9223372036854775807) = true := decide_eq_true c7
          try have c7b2 : (9223372036854775807 < (strOfNums y116).size + x3_1.size) = False := eq_false (Nat.not_lt.2 c7)
          obtain rfl := Option.some.inj H
          go_wp2_with (first | ((with_reducible refine gate_dst (N := 19) rfl ?_); refine Kd.R_lit (Kd.int .u8) _ 5 ?hg (N := 19) ?hd (xs := ([(wrap64 (48 + x0_1)) % 256] : List Int)) (inner := [.int .u8 ((wrap64 (48 + x0_1)) % 256)]) (ok := fun _ => True) (okp := fun _ => True) ?hr ?hp (fun _ hk => hk) trivial (Below.refl _ _) (Nat.le_refl _) (by simp) ?_; (case hd => rfl); (case hg => rfl); (case hr => first | (go_simp; done) | (go_simp; rfl)); (case hp => exact (Reps.one (show Kd.M (Kd.int .u8) _ _ _ ((wrap64 (48 + x0_1)) % 256) [.int .u8 ((wrap64 (48 + x0_1)) % 256)] from rfl) (Reps.none _ _))); intro v117 w8 ho9 hb hg_ hnew_; clear hg_ hnew_; (first | rw [← Ny116.out] at ho9 | (simp only [Int.reduceToNat] at ho9; rw [← Ny116.out] at ho9)); have n0_ := Aside0.mk (Kd.R_lower ho9 (below_size (by repeat (first | (with_reducible first | exact HB.out | apply below_alloc | apply pw_below_drewN | apply below_drew1) | exact HB.out)))); have n1_ := Aside0.mk (below_step (by repeat (first | (with_reducible first | exact HB.out | apply below_alloc | apply pw_below_drewN | apply below_drew1) | exact HB.out)) hb); clear HB; have HO118 := n0_; have HB := n1_; clear n0_ n1_; clear hb ho9; have hcv10 := own_string (P := Tryd.prog) Tryd.underlying39 Tryd.underlying5 Tryd.underlying9 (Kd.own_of_R HO118.out)))
          go_ret
          exact ⟨by first | rfl | (simp [errW_none, errW_some] <;> rfl) | (simp [*, errW_none, errW_some] <;> rfl), by repeat (first | (with_reducible first | exact HB.out | apply below_alloc | apply pw_below_drewN | apply below_drew1) | exact HB.out)⟩
        · rw [if_neg c7] at H
          exact absurd H (by simp)

end Go.Proofs.YtmbkmfdmpimegaaDoor.PR
