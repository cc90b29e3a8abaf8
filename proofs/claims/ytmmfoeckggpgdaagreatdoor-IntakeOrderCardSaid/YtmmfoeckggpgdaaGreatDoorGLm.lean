/-
  The walk of the law IntakeOrder: it answers true.
-/
import Derived.Test.YtmmfoeckggpgdaaGreatDoorJC
set_option linter.unusedSimpArgs false
set_option linter.unusedVariables false
namespace Go.Proofs.YtmmfoeckggpgdaaGreatDoor
open Go.RowKit Go.Lib Go.Maps Go.Proofs.YtmmfoeckggpgdaaGreatDoorW.PrintWords Go.Proofs.YtmmfoeckggpgdaaGreatDoorW.PrintLast Go.Proofs.YtmmfoeckggpgdaaGreatDoor.PE

def regL_5.T : Bool × List (List Nat × List Nat) := (true, [([], []), ([], []), ([], []), ([1, 2], [1, 2]), ([0, 3], [0, 3]), ([], []), ([], []), ([5, 6], [5, 6]), ([4, 7, 4], [4, 7]), ([8, 8, 0, 1, 2, 3, 4, 5, 6, 7, 8], [8])])
def regL_5.B : List Nat := [0, 0, 0, 6, 15, 0, 0, 96, 255, 511]
theorem regL_5.tab : rtab .any (opsOf Tryz.f3 5) = regL_5.T := by kernel_rfl
theorem regL_5.bits : waitsOk regL_5.T.2 regL_5.B = true := by kernel_rfl
def regL_10.T : Bool × List (List Nat × List Nat) := (true, [([], []), ([], []), ([], []), ([], []), ([], []), ([], []), ([4, 5], [4, 5]), ([6], [6]), ([], []), ([], []), ([8, 9], [8, 9]), ([10], [10]), ([0, 1, 0, 1, 4, 5, 6, 7, 11], [0, 1]), ([12, 7, 0, 1, 4, 5, 6, 7, 11], [7, 12]), ([2, 3, 0, 1, 2, 3, 4, 5, 6, 7, 8, 9, 10, 11, 12, 13], [2, 3]), ([14, 11, 13, 0, 1, 2, 3, 4, 5, 6, 7, 8, 9, 10, 11, 12, 13], [11, 14])])
def regL_10.B : List Nat := [0, 0, 0, 0, 0, 0, 48, 112, 0, 0, 768, 1792, 4083, 8179, 16383, 32767]
theorem regL_10.tab : rtab .any (opsOf Tryz.f3 10) = regL_10.T := by kernel_rfl
theorem regL_10.bits : waitsOk regL_10.T.2 regL_10.B = true := by kernel_rfl
theorem append_run {P : Program} {Q : Exit → Act → World → Prop} {ops : Array Oper} {o : Oper} {a : Act} {W W' : World} {K : Act → World → Prop} {N : Option Tmp} (hw : Region.wanted o (yielded ops a.tmps) = true) (hN : o.dst = N) (s x : Operand) (t : TypeId) (ho : o.op = .call { callee := .builtin .append, args := #[s, x], argTypes := #[t, t] })
    {v u v' : Value} (hs : a.eval s = v) (hx : a.eval x = u) (hr : (Builtin.append_ #[t, t] o.type #[v, u]).run P W = .ok v' W') (h : K (a.put N v') W') : if Region.wanted o (yielded ops a.tmps) = true then Oper.wp P o a W K Q else K (a.put N undef) W := by
  rw [if_pos hw]
  subst hN
  unfold Oper.wp execOp
  simp only [ho, resolve, invoke, builtin, Sem.run_bind, Sem.run_pure, Result.andThen_ok, List.map_toArray, List.map_cons, List.map_nil, hs, hx, hr]
  exact h
theorem split_mem (l : List Ev) (n : Nat) : ∀ e, e ∈ l.drop n ++ l.take n ↔ e ∈ l := fun e => by
  rw [List.mem_append]
  conv => rhs; rw [← List.take_append_drop n l, List.mem_append]
  exact Or.comm
theorem swap_mem {l : List Ev} {i k : Nat} (hi : i < l.length) (hk : k < l.length) : ∀ e, e ∈ (l.set i l[k]).set k l[i] ↔ e ∈ l := fun e => (List.set_set_perm hi hk).mem_iff
set_option maxRecDepth 100000 in
set_option maxHeartbeats 1000000 in
theorem order_calls (slack m at_ : Int) (turned : Bool) (A : Option Addr) (c : Nat) (es : List S28) (w : World) (hC : Kd.C k28 w A es.length es) (hc : es.length ≤ c) (hm : w.cell? ⟨0, 0, none⟩ = some (.int .i64 m)) :
    Calls Tryz.prog 3 #[.int .i64 slack, .slice A es.length c, .int .i64 at_, .bool turned] w fun e w' => e = .returned (.bool true) ∧ Below w.heap.size w w' := by
  have HC := Aside0.mk hC
  have HI := Aside0.mk (evsIn_C hC)
  have HM := Aside0.mk hm
  have HL := Aside0.mk hc
  obtain ⟨n, hn⟩ : ∃ n, n = es.length := ⟨_, rfl⟩
  obtain ⟨l, hl⟩ : ∃ l, l = es.map toEv := ⟨_, rfl⟩
  have hln : l.length = n := by rw [hl, List.length_map, hn]
  rw [← hl] at HI
  rw [← hn] at hc ⊢
  have HN := Aside0.mk (And.intro hn (And.intro hl hln))
  clear hC hm hn hl hln
  go_enter Tryz.func3, Tryz.ntmps3
  go_wp2_with fail
  refine (lives_calls m w HM.out).mono ?_
  rintro e w1 ⟨rfl, hb1⟩
  have HB1 := Aside0.mk hb1
  clear hb1
  by_cases h30 : 30 < n
  · go_wp2
    go_ret
    exact ⟨rfl, HB1.out⟩
  have hI1 := HI.out.below HB1.out
  have hsome := some_calls A c (l.map evSe) w1 (evsIn_PO hI1 (by rw [HN.out.2.2]; omega)) (by rw [List.length_map, HN.out.2.2]; exact hc) (by rw [List.length_map, HN.out.2.2]; omega)
  rw [List.length_map, HN.out.2.2] at hsome
  have HSome := Aside0.mk hsome
  obtain ⟨q, hq⟩ : ∃ q, q = (l.map evSe).any bigS := ⟨_, rfl⟩
  rw [← hq] at HSome
  have HQ := Aside0.mk hq
  clear hI1 hsome hq
  go_wp2_with fail
  refine HSome.out.mono ?_
  rintro e w2 ⟨rfl, hb2⟩
  have HB2 := Aside0.mk (HB1.out.trans (hb2.mono HB1.out.size))
  clear hb2 HSome
  cases q
  rotate_left
  · go_wp2
    go_ret
    exact ⟨rfl, HB2.out⟩
  have HSh := Aside0.mk (big_short HQ.out.symm)
  have hal := alike_calls A c l w2 (HI.out.below HB2.out) (by rw [HN.out.2.2]; exact hc) (by rw [HN.out.2.2]; omega)
  rw [HN.out.2.2] at hal
  have HAl := Aside0.mk hal
  clear hal
  go_wp2_with fail
  refine HAl.out.mono ?_
  rintro e w3 ⟨r, rfl, hr, hb3⟩
  have HB3 := Aside0.mk (HB2.out.trans (hb3.mono HB2.out.size))
  have HR := Aside0.mk hr
  clear hb3 hr HAl
  cases r
  · go_wp2
    go_ret
    exact ⟨rfl, HB3.out⟩
  have HAlike : Aside0 (AlikeL l) := ⟨fun a ha b hb h1 h2 => alike_mem (by have h8 := HR.out rfl; rw [← HN.out.2.2] at h8; exact h8) a ha b hb h1 h2⟩
  clear HR
  by_cases hlt0 : at_ < 0
  · go_wp2
    go_ret
    exact ⟨rfl, HB3.out⟩
  by_cases hgt : (n : Int) < at_
  · go_wp2
    go_ret
    exact ⟨rfl, HB3.out⟩
  obtain ⟨p, hp⟩ : ∃ p : Nat, at_ = (p : Int) := ⟨at_.toNat, by omega⟩
  subst hp
  have hpn : p ≤ n := by omega
  obtain ⟨w4, hw4⟩ : ∃ w4, w4 = w3 := ⟨_, rfl⟩
  rw [← hw4] at HB3 ⊢
  clear hw4 hlt0
  have h0 : EvAt (w4.drew.alloc (.cells #[] 28)) w4.heap.size (.slice (some ⟨w4.drew.heap.size, 0, none⟩) ([] : List Ev).length 0) [] := ⟨rfl, .inr ⟨w4.heap.size, 0, #[], rfl, Nat.le_refl _, heap_alloc_new w4.drew _, Nat.le_refl _, by decide, rfl, rfl⟩⟩
  have hCw : Kd.C k28 (w4.drew.alloc (.cells #[] 28)) A es.length es := Kd.C_below HC.out (HB3.out.trans ((below_alloc (below_drew (Below.refl _ _)) _).mono HB3.out.size))
  obtain ⟨b1, q1, W1, hr1, he1, hg1⟩ := append_evs w4.heap.size w4.drew.heap.size 0 [] (l.drop p) (sliced A p n c 8) _ h0 (by rw [HN.out.2.1, HN.out.1]; exact src_drop hCw HL.out (by rw [← HN.out.1]; exact hpn)) (by rw [List.length_drop, HN.out.2.2]; show (0 + _) * 96 ≤ _; omega) (by simp)
  have hBW1 : Below w4.heap.size w4.drew W1 := (below_alloc (Below.refl _ _) _ : Below w4.drew.heap.size w4.drew _).grown hg1 (by simp) (fun k hk => by injection hk with hk; rw [← hk]; exact Nat.le_refl _)
  have hC1 : Kd.C k28 W1 A es.length es := Kd.C_below HC.out (HB3.out.trans (((below_drew (Below.refl w4.heap.size w4)).trans hBW1).mono HB3.out.size))
  rw [List.nil_append] at he1
  rw [show ([] : List Ev).length + (l.drop p).length = (l.drop p).length by simp] at he1 hr1
  obtain ⟨b2, q2, W2, hr2, he2, hg2⟩ := append_evs w4.heap.size b1 q1 (l.drop p) (l.take p) (sliced A 0 p c 8) W1 he1 (by rw [HN.out.2.1]; exact src_take hC1 (by rw [← HN.out.1]; exact hpn)) (by rw [List.length_drop, List.length_take, HN.out.2.2]; omega) (Nat.le_trans (by simp) hBW1.size)
  have hb1b : w4.heap.size ≤ b1 := by
    rcases he1.2 with ⟨e, _⟩ | ⟨g', _, _, e, hb, _⟩
    · cases e
    · injection e with e; injection e with e; injection e with e; rw [e]; exact hb
  have HBW2 : Aside0 (Below w4.heap.size w4.drew W2) := ⟨hBW1.grown hg2 hBW1.size (fun k hk => by injection hk with hk; rw [← hk]; exact hb1b)⟩
  have e1 : (l.drop p).length = n - p := by rw [List.length_drop, HN.out.2.2]
  have e2 : (l.drop p).length + (l.take p).length = n := by rw [List.length_drop, List.length_take, HN.out.2.2]; omega
  rw [e1] at hr1
  rw [e2] at hr2 he2
  rw [e1] at hr2
  obtain ⟨n1, hn1⟩ : ∃ n1, n1 = n - p := ⟨_, rfl⟩
  rw [← hn1] at hr1 hr2
  have hq2 : n ≤ q2 := by
    rcases he2.2 with ⟨e, _⟩ | ⟨_, _, _, e, _, _, hq, _⟩
    · cases e
    · injection e with _ e3 e4; omega
  have hq3 : q2 ≤ 9223372036854775807 := by
    rcases he2.2 with ⟨e, _⟩ | ⟨_, _, _, e, _, _, _, hq, _⟩
    · cases e
    · injection e with _ e3 e4; rw [e4]; unfold maxLen at hq; exact hq
  have HE2 := Aside0.mk he2
  have hb8 : ∀ W : World, (Instr.buildSlice 22 0 #[]).run Tryz.prog W = .ok (.slice (some ⟨W.heap.size, 0, none⟩) 0 0) (W.alloc (.cells #[] 28)) := fun W => by kernel_rfl
  have hp0 : (0 : Int) ≤ (p : Int) := by omega
  have hp1 : (p : Int) ≤ (n : Int) := by omega
  have hp2 : (p : Int) ≤ (c : Int) := by omega
  have hp3 : (p : Int).toNat = p := Int.toNat_natCast p
  have hs1 : ∀ W : World, (Instr.slice 22 (.slice A n c) (some (.int .i64 p)) none none).run Tryz.prog W = .ok (sliced A p n c 8) W := fun W => by
    rw [run_slice_l (P := Tryz.prog) (w := W) 22 A n c (by kernel_rfl) .i64 p hp0 hp1, show Tryz.prog.elem 22 = 28 from by kernel_rfl, ei_size, hp3]
    rfl
  have hs2 : ∀ W : World, (Instr.slice 22 (.slice A n c) none (some (.int .i64 p)) none).run Tryz.prog W = .ok (sliced A 0 p c 8) W := fun W => by
    rw [run_slice_h (P := Tryz.prog) (w := W) 22 A n c (by kernel_rfl) .i64 p hp0 hp2, show Tryz.prog.elem 22 = 28 from by kernel_rfl, ei_size, hp3]
    rfl
  obtain ⟨x1, hx1⟩ : ∃ x1, x1 = sliced A p n c 8 := ⟨_, rfl⟩
  obtain ⟨x2, hx2⟩ : ∃ x2, x2 = sliced A 0 p c 8 := ⟨_, rfl⟩
  rw [← hx1] at hr1 hs1
  rw [← hx2] at hr2 hs2
  simp only [List.length_nil] at hr1
  clear h0 hCw he1 hg1 hBW1 hC1 he2 hg2 hb1b e1 e2 hn1 hx1 hx2 hp0 hp1 hp2 hp3
  go_wp2_with fail
  refine start_ (n := 10) (S := fun W => True) (ds := []) #[false, false, false, false, false, false, false, false, false, false] (by kernel_rfl) rfl rfl trivial (fun hHeld => ?_)
  refine with_tabW regL_5.tab regL_5.bits (fun HT_ HW_ => ?_)
  refine pure_ (i := 1) (N := (some 41)) (v := ?_) (a' := ?_) #[false, true, false, false, false, false, false, false, false, false] rfl rfl (any_of HT_.out (by kernel_rfl)) (fun _ _ _ h => h) (Or.inl ⟨by rfl, ?_⟩) ?_ ?_
  rotate_left
  · intro w'
    go_simp
    with_reducible rfl
  rotate_left
  · simp only [Act.put, List.setIfInBounds_toArray, List.set_cons_zero, List.set_cons_succ, i64_w, i32_w]
    rfl
  refine pure_ (i := 2) (N := (some 42)) (v := ?_) (a' := ?_) #[false, true, true, false, false, false, false, false, false, false] rfl rfl (any_of HT_.out (by kernel_rfl)) (fun _ _ _ h => h) (Or.inl ⟨by rfl, ?_⟩) ?_ ?_
  rotate_left
  · intro w'
    go_simp
    with_reducible rfl
  rotate_left
  · simp only [Act.put, List.setIfInBounds_toArray, List.set_cons_zero, List.set_cons_succ, i64_w, i32_w]
    rfl
  refine pure_ (i := 3) (N := (some 43)) (v := ?_) (a' := ?_) #[false, true, true, true, false, false, false, false, false, false] rfl rfl (any_of HT_.out (by kernel_rfl)) (fun _ _ _ h => h) (Or.inl ⟨by rfl, ?_⟩) ?_ ?_
  rotate_left
  · intro w'
    go_simp
    with_reducible rfl
  rotate_left
  · simp only [Act.put, List.setIfInBounds_toArray, List.set_cons_zero, List.set_cons_succ, i64_w, i32_w]
    rfl
  refine pure_ (i := 5) (N := (some 45)) (v := ?_) (a' := ?_) #[false, true, true, true, false, true, false, false, false, false] rfl rfl (any_of HT_.out (by kernel_rfl)) (fun _ _ _ h => h) (Or.inl ⟨by rfl, ?_⟩) ?_ ?_
  rotate_left
  · intro w'
    go_simp
    with_reducible rfl
  rotate_left
  · simp only [Act.put, List.setIfInBounds_toArray, List.set_cons_zero, List.set_cons_succ, i64_w, i32_w]
    rfl
  refine pure_ (i := 6) (N := (some 46)) (v := ?_) (a' := ?_) #[false, true, true, true, false, true, true, false, false, false] rfl rfl (any_of HT_.out (by kernel_rfl)) (fun _ _ _ h => h) (Or.inl ⟨by rfl, ?_⟩) ?_ ?_
  rotate_left
  · intro w'
    go_simp
    with_reducible rfl
  rotate_left
  · simp only [Act.put, List.setIfInBounds_toArray, List.set_cons_zero, List.set_cons_succ, i64_w, i32_w]
    rfl
  refine pure_ (i := 7) (N := (some 47)) (v := ?_) (a' := ?_) #[false, true, true, true, false, true, true, true, false, false] rfl rfl (any_of HT_.out (by kernel_rfl)) (fun _ _ _ h => h) (Or.inl ⟨by rfl, ?_⟩) ?_ ?_
  rotate_left
  · intro w'
    go_simp
    with_reducible rfl
  rotate_left
  · simp only [Act.put, List.setIfInBounds_toArray, List.set_cons_zero, List.set_cons_succ, i64_w, i32_w]
    rfl
  refine one_ (i := 0) (N := (some 40)) #[true, true, true, true, false, true, true, true, false, false] rfl rfl (one_of HT_.out (by kernel_rfl)) (by decide) (fun K hK => ?_)
  refine event_step (v := .slice (some ⟨w4.drew.heap.size, 0, none⟩) 0 0) (w1 := w4.drew.alloc (.cells #[] 28)) (by rfl) (by first | (go_simp; done) | (go_simp; rfl)) ?_
  refine hK.out _ _ trivial (fun hHeld => ?_)
  clear hK K
  refine norm_ (a' := ?_) ?_ ?_
  rotate_left
  · show Act.put _ (some 40) _ = _
    simp only [Act.put, List.setIfInBounds_toArray, List.set_cons_zero, List.set_cons_succ, i64_w, i32_w]
    rfl
  refine one_ (i := 4) (N := (some 44)) #[true, true, true, true, true, true, true, true, false, false] rfl rfl (one_of HT_.out (by kernel_rfl)) (by decide) (fun K hK => ?_)
  refine append_run (by rfl) rfl _ _ 22 rfl rfl rfl hr1 ?_
  clear hr1
  refine hK.out _ _ trivial (fun hHeld => ?_)
  clear hK K
  refine norm_ (a' := ?_) ?_ ?_
  rotate_left
  · show Act.put _ (some 44) _ = _
    simp only [Act.put, List.setIfInBounds_toArray, List.set_cons_zero, List.set_cons_succ, i64_w, i32_w]
    rfl
  refine one_ (i := 8) (N := (some 48)) #[true, true, true, true, true, true, true, true, true, false] rfl rfl (one_of HT_.out (by kernel_rfl)) (by decide) (fun K hK => ?_)
  refine append_run (by rfl) rfl _ _ 22 rfl rfl rfl hr2 ?_
  clear hr2
  refine hK.out _ _ trivial (fun hHeld => ?_)
  clear hK K
  refine norm_ (a' := ?_) ?_ ?_
  rotate_left
  · show Act.put _ (some 48) _ = _
    simp only [Act.put, List.setIfInBounds_toArray, List.set_cons_zero, List.set_cons_succ, i64_w, i32_w]
    rfl
  refine pure_ (i := 9) (N := (some 9)) (v := ?_) (a' := ?_) #[true, true, true, true, true, true, true, true, true, true] rfl rfl (any_of HT_.out (by kernel_rfl)) (fun _ _ _ h => h) (Or.inl ⟨by rfl, ?_⟩) ?_ ?_
  rotate_left
  · intro w'
    go_simp
    with_reducible rfl
  rotate_left
  · simp only [Act.put, List.setIfInBounds_toArray, List.set_cons_zero, List.set_cons_succ, i64_w, i32_w]
    rfl
  refine done_ (done_of HT_.out (by kernel_rfl)) ?_
  clear hb8 hs1 hs2
  have HBW := Aside0.mk (HB3.out.trans (((below_drew (Below.refl w4.heap.size w4)).trans HBW2.out).mono HB3.out.size))
  obtain ⟨m1, hm1⟩ : ∃ m1, m1 = l.drop p ++ l.take p := ⟨_, rfl⟩
  have hm1l : m1.length = n := by rw [hm1, List.length_append, List.length_drop, List.length_take, HN.out.2.2]; omega
  have HMem : Aside0 (m1.length = n ∧ ∀ e, e ∈ m1 ↔ e ∈ l) := ⟨hm1l, by rw [hm1]; exact split_mem l p⟩
  rw [← hm1] at HE2
  clear hm1 hm1l
  cases turned
  · obtain ⟨wz, hwz⟩ : ∃ wz, wz = W2 := ⟨_, rfl⟩
    obtain ⟨mz, hmz⟩ : ∃ mz, mz = m1 := ⟨_, rfl⟩
    rw [← hwz, ← hmz] at HE2
    rw [← hwz] at HBW ⊢
    rw [← hmz] at HMem
    have HEz := HE2
    have HBz := HBW
    have HMz := HMem
    clear hwz hmz HE2 HBW HMem HBW2
    have hoff := offered_calls slack m A c l wz (HI.out.below HBz.out) (by rw [HN.out.2.2]; exact hc) (by rw [HN.out.2.2]; omega) HSh.out (pw_cell_below HBz.out HM.out)
    rw [HN.out.2.2] at hoff
    have HOff := Aside0.mk hoff
    clear hoff
    go_wp2_with fail
    refine HOff.out.mono ?_
    rintro e wx ⟨yx, ix, fx, rfl, hkx, hox⟩
    have HKx := Aside0.mk hkx
    have HOx := Aside0.mk hox
    have hevz : EvsIn wz (some ⟨b2, 0, none⟩) mz := evAt_evsIn (c := q2) HEz.out (by rw [HMz.out.1])
    have HEx := Aside0.mk (hevz.below hkx.bel)
    have HBx := Aside0.mk (HBz.out.trans (hkx.bel.mono HBz.out.size))
    clear hkx hox hevz HOff
    obtain ⟨gx, hgx⟩ : ∃ gx, gx = yx.g := ⟨_, rfl⟩
    have HGx := Aside0.mk hgx.symm
    rw [← hgx]
    clear hgx
    have hoff := offered_calls slack m (some ⟨b2, 0, none⟩) q2 mz wx HEx.out (by rw [HMz.out.1]; exact hq2) (by rw [HMz.out.1]; omega) (fun e he => HSh.out e ((HMz.out.2 e).1 he)) (pw_cell_below HBx.out HM.out)
    rw [HMz.out.1] at hoff
    have HOff := Aside0.mk hoff
    clear hoff
    go_wp2_with fail
    refine HOff.out.mono ?_
    rintro e wy ⟨yy, iy, fy, rfl, hky, hoy⟩
    have HKy := Aside0.mk hky
    have HOy := Aside0.mk hoy
    have HKxy := Aside0.mk (HKx.out.below hky.bel)
    have HBy := Aside0.mk (HBx.out.trans (hky.bel.mono HBx.out.size))
    clear hky hoy HOff HKx HEx
    obtain ⟨gy, hgy⟩ : ∃ gy, gy = yy.g := ⟨_, rfl⟩
    have HGy := Aside0.mk hgy.symm
    rw [← hgy]
    clear hgy
    cases fx
    · go_wp2
      go_ret
      exact ⟨rfl, HBy.out⟩
    cases fy
    · go_wp2
      go_ret
      exact ⟨rfl, HBy.out⟩
    have hlaw := order_law HOx.out HOy.out (fun e => (HMz.out.2 e).symm) HAlike.out HKxy.out.ok.ord HKy.out.ok.ord HKxy.out.at_.gone.rise HKy.out.at_.gone.rise
    have HLaw := Aside0.mk hlaw
    clear hlaw
    have hN1 : l.length ≤ 1000000 := by rw [HN.out.2.2]; omega
    have hN2 : mz.length ≤ 1000000 := by rw [HMz.out.1]; omega
    have HTx := Aside0.mk (taken_kept HKxy.out HGx.out hN1)
    have HNn := Aside0.mk (And.intro hN1 hN2)
    clear hN1 hN2
    go_wp2_with fail
    refine HTx.out.mono ?_
    rintro r wa ⟨va, rfl, hea, hba⟩
    have HKxa := Aside0.mk (HKxy.out.below hba)
    have HKya := Aside0.mk (HKy.out.below hba)
    have HBa := Aside0.mk (HBy.out.trans (hba.mono HBy.out.size))
    obtain ⟨Aa, ca, hva, hla, -, hCa⟩ := evAt_C hea
    have HCa := Aside0.mk hCa
    have HTa := Aside0.mk (taken_kept HKya.out HGy.out HNn.out.2)
    have hta := HKxa.out.ok.tlen
    obtain ⟨nt, hnt⟩ : ∃ nt, nt = ix.taken.length := ⟨_, rfl⟩
    rw [← hnt] at hva hla hta
    have HNt := Aside0.mk hnt
    subst hva
    clear hea hba hCa hnt HTx HKxy HKy
    go_wp2_with fail
    refine HTa.out.mono ?_
    rintro r wb ⟨vb, rfl, heb, hbb⟩
    have HKxb := Aside0.mk (HKxa.out.below hbb)
    have HKyb := Aside0.mk (HKya.out.below hbb)
    have HBb := Aside0.mk (HBa.out.trans (hbb.mono HBa.out.size))
    rw [← HLaw.out.1] at heb
    obtain ⟨Ab, cb, hvb, hlb, -, hCb⟩ := evAt_C heb
    rw [← HNt.out] at hvb hlb
    have hsm := same_calls Aa Ab ca cb ix.taken wb (Kd.C_below HCa.out hbb) (by rw [← HNt.out]; exact hla) hCb (by rw [← HNt.out]; exact hlb) (by rw [← HNt.out]; have h9 := HNn.out.1; omega)
    rw [← HNt.out] at hsm
    have HSm := Aside0.mk hsm
    subst hvb
    clear heb hbb hCb hsm hla hlb hta HTa HKxa HKya
    go_wp2_with fail
    refine HSm.out.mono ?_
    rintro r wc ⟨rfl, hbc⟩
    have HKxc := Aside0.mk (HKxb.out.below hbc)
    have HKyc := Aside0.mk (HKyb.out.below hbc)
    have HBc := Aside0.mk (HBb.out.trans (hbc.mono HBb.out.size))
    have hgx := inGone_calls _ yx ix wc HKxc.out.at_ (by have h9 := HKxc.out.mn; have h8 := HNn.out.1; omega)
    rw [HGx.out] at hgx
    have HGo := Aside0.mk hgx
    clear hbc hgx HSm HKxb HKyb
    go_wp2_with fail
    refine HGo.out.mono ?_
    rintro r wd ⟨Ad, cd, rfl, hld, -, hCd, hbd⟩
    have HKyd := Aside0.mk (HKyc.out.below hbd)
    have HBd := Aside0.mk (HBc.out.trans (hbd.mono HBc.out.size))
    have HCd := Aside0.mk hCd
    have hgy := inGone_calls _ yy iy wd HKyd.out.at_ (by have h9 := HKyd.out.mn; have h8 := HNn.out.2; omega)
    rw [HGy.out, show keysL iy.gone = keysL ix.gone from HLaw.out.2.symm] at hgy
    have HGo2 := Aside0.mk hgy
    have hgl : (keysL ix.gone).length ≤ 1000000000 := by
      have h9 := HKxc.out.mn
      have h8 := HKxc.out.at_.gone.le
      have h7 := HNn.out.1
      unfold keysL; rw [List.length_map]; omega
    obtain ⟨ng, hng⟩ : ∃ ng, ng = (keysL ix.gone).length := ⟨_, rfl⟩
    rw [← hng] at hld hgl
    rw [← hng]
    have HNg := Aside0.mk hng
    clear hng hbd hCd hgy HGo HKyc
    go_wp2_with fail
    refine HGo2.out.mono ?_
    rintro r we ⟨Ae, ce, rfl, hle, -, hCe, hbe⟩
    have HBe := Aside0.mk (HBd.out.trans (hbe.mono HBd.out.size))
    have htx := texts_calls Ad Ae cd ce (keysL ix.gone) we (Kd.C_below HCd.out hbe) (by rw [← HNg.out]; exact hld) hCe hle (by rw [← HNg.out]; exact hgl)
    rw [← HNg.out] at htx hle
    have HTxt := Aside0.mk htx
    rw [← HNg.out]
    clear htx hCe hbe hld hgl HGo2
    go_wp2_with fail
    refine HTxt.out.mono ?_
    rintro r wf ⟨rfl, hbf⟩
    have HBf := Aside0.mk (HBe.out.trans (hbf.mono HBe.out.size))
    clear hbf hle HTxt
    go_wp2
    go_ret
    exact ⟨rfl, HBf.out⟩
  · have HBx : Aside0 (Below w4.heap.size W2 W2) := ⟨Below.refl _ _⟩
    have hW2s : w4.heap.size ≤ W2.heap.size := HBW2.out.size
    go_wp2_with fail
    go_loopw [10, 11] (fun i kk wr => ∃ (a : Nat) (mm : List Ev), i = .int .i64 a ∧ kk = .int .i64 ((n : Int) - 1 - a) ∧ a ≤ n ∧ Aside0 (mm.length = n ∧ ∀ e, e ∈ mm ↔ e ∈ l) ∧ Aside0 (EvAt wr w4.heap.size (.slice (some ⟨b2, 0, none⟩) n q2) mm) ∧ Aside0 (Below w4.heap.size W2 wr)) (fun i _ _ => n - (intOf i).toNat)
    case atStart => exact ⟨0, m1, rfl, by go_num, Nat.zero_le _, HMem, HE2, HBx⟩
    case round =>
      obtain ⟨a, mm, rfl, rfl, ha, HMm, HEm, HBm⟩ := hrel
      by_cases hlt : (a : Int) < (n : Int) - 1 - (a : Int)
      · obtain ⟨k, hk⟩ : ∃ k : Nat, (n : Int) - 1 - (a : Int) = (k : Int) := ⟨n - 1 - a, by omega⟩
        rw [hk] at hlt ⊢
        have HK := Aside0.mk hk
        clear hk
        obtain ⟨i, hi⟩ : ∃ i, i = a := ⟨_, rfl⟩
        rw [← hi] at hlt ha HK ⊢
        clear hi
        have hik : i < k := by omega
        have hkn : k < n := by have := HK.out; omega
        have hil : i < mm.length := by have := HMm.out.1; omega
        have hkl : k < mm.length := by have := HMm.out.1; omega
        have hEm := HEm.out
        obtain ⟨hcell, hfz, hgw, hln, hlc⟩ := hEm.reads
        obtain ⟨c0, c1, c2, c3, c4, c5, c6, c7⟩ := hcell k hkl
        obtain ⟨d0, d1, d2, d3, d4, d5, d6, d7⟩ := hcell i hil
        have HSw : Aside0 (((mm.set i mm[k]).set k mm[i]).length = n ∧ ∀ e, e ∈ (mm.set i mm[k]).set k mm[i] ↔ e ∈ l) := ⟨by rw [List.length_set, List.length_set]; exact HMm.out.1, fun e => (swap_mem hil hkl e).trans (HMm.out.2 e)⟩
        have HEs : Aside0 (EvAt ((setE (setE wr b2 (i * 8) mm[k]) b2 (k * 8) mm[i]).drew) w4.heap.size (.slice (some ⟨b2, 0, none⟩) n q2) ((mm.set i mm[k]).set k mm[i])) := ⟨by
          have h9 := hEm
          rw [hln] at h9 ⊢
          have h10 := h9.set i hil mm[k]
          have e10 : (mm.set i mm[k]).length = mm.length := List.length_set
          rw [← e10] at h10
          have h11 := h10.set k (by rw [e10]; exact hkl) mm[i]
          rw [e10] at h11
          exact h11.below (below_drew (Below.refl _ _))⟩
        have HEq : Aside0 (EvAt (setE wr b2 (i * 8) mm[k]) w4.heap.size (.slice (some ⟨b2, 0, none⟩) n q2) (mm.set i mm[k])) := ⟨by
          have h9 := hEm
          rw [hln] at h9 ⊢
          exact h9.set i hil mm[k]⟩
        have hkl2 : ∀ e, k < (mm.set i e).length := fun e => by rw [List.length_set]; exact hkl
        have hbg : w4.heap.size ≤ b2 := by
          rcases hEm.2 with ⟨e, _⟩ | ⟨g', _, _, e, hb, _⟩
          · cases e
          · injection e with e; injection e with e; injection e with e; rw [e]; exact hb
        have HBs : Aside0 (Below w4.heap.size W2 ((setE (setE wr b2 (i * 8) mm[k]) b2 (k * 8) mm[i]).drew)) := ⟨(HBm.out.trans (((setE_fr wr b2 (i * 8) mm[k]).then_ (setE_fr _ b2 (k * 8) mm[i]) (fun q hq => .inl hq)).toBelow (Nat.le_trans hW2s HBm.out.size) (fun q hq => by rw [hq]; exact hbg))).drew⟩
        obtain ⟨x, hx⟩ : ∃ x, x = mm[k] := ⟨_, rfl⟩
        obtain ⟨y, hy⟩ : ∃ y, y = mm[i] := ⟨_, rfl⟩
        rw [← hx] at c0 c1 c2 c3 c4 c5 c6 c7 HSw HEs HBs HEq
        have HKl := Aside0.mk (hkl2 x)
        clear hkl2
        rw [← hy] at d0 d1 d2 d3 d4 d5 d6 d7 HSw HEs HBs
        have hkq : (k : Int).toNat = k := Int.toNat_natCast k
        have hiq : (i : Int).toNat = i := Int.toNat_natCast i
        have hin : (i : Int) < (n : Int) := by omega
        have hkn' : (k : Int) < (n : Int) := by omega
        have hk0 : (0 : Int) ≤ (k : Int) := by omega
        have hi0 : (0 : Int) ≤ (i : Int) := by omega
        clear hx hy hcell hgw hln hlc hEm hil hkl HEm HBm HMm hbg
        obtain ⟨s0, s1, s2, s3, s4, s5, s6, s7⟩ := x
        obtain ⟨t0, t1, t2, t3, t4, t5, t6, t7⟩ := y
        simp only at c0 c1 c2 c3 c4 c5 c6 c7 d0 d1 d2 d3 d4 d5 d6 d7
        go_wp2_with fail
        refine start_ (n := 16) (S := fun W => W.cell? ⟨b2, k * 8, none⟩ = some (.string s0) ∧ W.cell? ⟨b2, k * 8 + 1, none⟩ = some (.int .i64 s1) ∧ W.cell? ⟨b2, k * 8 + 2, none⟩ = some (.int .i64 s2) ∧ W.cell? ⟨b2, k * 8 + 3, none⟩ = some (.int .i64 s3) ∧ W.cell? ⟨b2, k * 8 + 4, none⟩ = some (.string s4) ∧ W.cell? ⟨b2, k * 8 + 5, none⟩ = some (.string s5) ∧ W.cell? ⟨b2, k * 8 + 6, none⟩ = some (.int .i64 s6) ∧ W.cell? ⟨b2, k * 8 + 7, none⟩ = some (.string s7) ∧ W.cell? ⟨b2, i * 8, none⟩ = some (.string t0) ∧ W.cell? ⟨b2, i * 8 + 1, none⟩ = some (.int .i64 t1) ∧ W.cell? ⟨b2, i * 8 + 2, none⟩ = some (.int .i64 t2) ∧ W.cell? ⟨b2, i * 8 + 3, none⟩ = some (.int .i64 t3) ∧ W.cell? ⟨b2, i * 8 + 4, none⟩ = some (.string t4) ∧ W.cell? ⟨b2, i * 8 + 5, none⟩ = some (.string t5) ∧ W.cell? ⟨b2, i * 8 + 6, none⟩ = some (.int .i64 t6) ∧ W.cell? ⟨b2, i * 8 + 7, none⟩ = some (.string t7)) (ds := [13, 15]) #[false, false, false, false, false, false, false, false, false, false, false, false, false, false, false, false] (by kernel_rfl) rfl rfl ⟨c0, c1, c2, c3, c4, c5, c6, c7, d0, d1, d2, d3, d4, d5, d6, d7⟩ (fun hHeld => ?_)
        refine with_tabW regL_10.tab regL_10.bits (fun HT_ HW_ => ?_)
        refine pure_ (i := 0) (N := (some 60)) (v := ?_) (a' := ?_) #[true, false, false, false, false, false, false, false, false, false, false, false, false, false, false, false] rfl rfl (any_of HT_.out (by kernel_rfl)) (fun _ _ _ h => h) (Or.inl ⟨by rfl, ?_⟩) ?_ ?_
        rotate_left
        · intro w'
          go_simp
          with_reducible rfl
        rotate_left
        · simp only [Act.put, List.setIfInBounds_toArray, List.set_cons_zero, List.set_cons_succ, i64_w, i32_w]
          rfl
        refine pure_ (i := 1) (N := (some 61)) (v := ?_) (a' := ?_) #[true, true, false, false, false, false, false, false, false, false, false, false, false, false, false, false] rfl rfl (any_of HT_.out (by kernel_rfl)) (fun _ _ _ h => h) (Or.inl ⟨by rfl, ?_⟩) ?_ ?_
        rotate_left
        · intro w'
          go_simp
          with_reducible rfl
        rotate_left
        · simp only [Act.put, List.setIfInBounds_toArray, List.set_cons_zero, List.set_cons_succ, i64_w, i32_w]
          rfl
        refine pure_ (i := 2) (N := (some 62)) (v := ?_) (a' := ?_) #[true, true, true, false, false, false, false, false, false, false, false, false, false, false, false, false] rfl rfl (any_of HT_.out (by kernel_rfl)) (fun _ _ _ h => h) (Or.inl ⟨by rfl, ?_⟩) ?_ ?_
        rotate_left
        · intro w'
          go_simp
          with_reducible rfl
        rotate_left
        · simp only [Act.put, List.setIfInBounds_toArray, List.set_cons_zero, List.set_cons_succ, i64_w, i32_w]
          rfl
        refine pure_ (i := 3) (N := (some 63)) (v := ?_) (a' := ?_) #[true, true, true, true, false, false, false, false, false, false, false, false, false, false, false, false] rfl rfl (any_of HT_.out (by kernel_rfl)) (fun _ _ _ h => h) (Or.inl ⟨by rfl, ?_⟩) ?_ ?_
        rotate_left
        · intro w'
          go_simp
          with_reducible rfl
        rotate_left
        · simp only [Act.put, List.setIfInBounds_toArray, List.set_cons_zero, List.set_cons_succ, i64_w, i32_w]
          rfl
        refine pure_ (i := 4) (N := (some 64)) (v := ?_) (a' := ?_) #[true, true, true, true, true, false, false, false, false, false, false, false, false, false, false, false] rfl rfl (any_of HT_.out (by kernel_rfl)) (fun _ _ _ h => h) (Or.inl ⟨by rfl, ?_⟩) ?_ ?_
        rotate_left
        · intro w'
          go_simp
          with_reducible rfl
        rotate_left
        · simp only [Act.put, List.setIfInBounds_toArray, List.set_cons_zero, List.set_cons_succ, i64_w, i32_w]
          rfl
        refine pure_ (i := 5) (N := (some 65)) (v := ?_) (a' := ?_) #[true, true, true, true, true, true, false, false, false, false, false, false, false, false, false, false] rfl rfl (any_of HT_.out (by kernel_rfl)) (fun _ _ _ h => h) (Or.inl ⟨by rfl, ?_⟩) ?_ ?_
        rotate_left
        · intro w'
          go_simp
          with_reducible rfl
        rotate_left
        · simp only [Act.put, List.setIfInBounds_toArray, List.set_cons_zero, List.set_cons_succ, i64_w, i32_w]
          rfl
        refine pure_ (i := 6) (N := (some 66)) (v := ?_) (a' := ?_) #[true, true, true, true, true, true, true, false, false, false, false, false, false, false, false, false] rfl rfl (any_of HT_.out (by kernel_rfl)) (fun _ _ _ h => h) (Or.inl ⟨by rfl, ?_⟩) ?_ ?_
        rotate_left
        · intro w'
          go_simp
          with_reducible rfl
        rotate_left
        · simp only [Act.put, List.setIfInBounds_toArray, List.set_cons_zero, List.set_cons_succ, i64_w, i32_w]
          rfl
        refine pure_ (i := 8) (N := (some 68)) (v := ?_) (a' := ?_) #[true, true, true, true, true, true, true, false, true, false, false, false, false, false, false, false] rfl rfl (any_of HT_.out (by kernel_rfl)) (fun _ _ _ h => h) (Or.inl ⟨by rfl, ?_⟩) ?_ ?_
        rotate_left
        · intro w'
          go_simp
          with_reducible rfl
        rotate_left
        · simp only [Act.put, List.setIfInBounds_toArray, List.set_cons_zero, List.set_cons_succ, i64_w, i32_w]
          rfl
        refine pure_ (i := 9) (N := (some 69)) (v := ?_) (a' := ?_) #[true, true, true, true, true, true, true, false, true, true, false, false, false, false, false, false] rfl rfl (any_of HT_.out (by kernel_rfl)) (fun _ _ _ h => h) (Or.inl ⟨by rfl, ?_⟩) ?_ ?_
        rotate_left
        · intro w'
          go_simp
          with_reducible rfl
        rotate_left
        · simp only [Act.put, List.setIfInBounds_toArray, List.set_cons_zero, List.set_cons_succ, i64_w, i32_w]
          rfl
        refine pure_ (i := 10) (N := (some 70)) (v := ?_) (a' := ?_) #[true, true, true, true, true, true, true, false, true, true, true, false, false, false, false, false] rfl rfl (any_of HT_.out (by kernel_rfl)) (fun _ _ _ h => h) (Or.inl ⟨by rfl, ?_⟩) ?_ ?_
        rotate_left
        · intro w'
          go_simp
          with_reducible rfl
        rotate_left
        · simp only [Act.put, List.setIfInBounds_toArray, List.set_cons_zero, List.set_cons_succ, i64_w, i32_w]
          rfl
        refine take_ (i := 7) (N := (some 67)) (v := ?_) (a' := ?_) #[true, true, true, true, true, true, true, true, true, true, true, false, false, false, false, false] rfl rfl (take_ofW HT_.out HW_.out (by kernel_rfl)) (fun _ _ _ h => h) (Or.inl ⟨by rfl, ?_⟩) hHeld ?_ ?_
        rotate_left
        · rintro w' ⟨c0, c1, c2, c3, c4, c5, c6, c7, d0, d1, d2, d3, d4, d5, d6, d7⟩
          go_simp
          with_reducible rfl
        rotate_left
        · simp only [Act.put, List.setIfInBounds_toArray, List.set_cons_zero, List.set_cons_succ, i64_w, i32_w]
          rfl
        refine take_ (i := 11) (N := (some 71)) (v := ?_) (a' := ?_) #[true, true, true, true, true, true, true, true, true, true, true, true, false, false, false, false] rfl rfl (take_ofW HT_.out HW_.out (by kernel_rfl)) (fun _ _ _ h => h) (Or.inl ⟨by rfl, ?_⟩) hHeld ?_ ?_
        rotate_left
        · rintro w' ⟨c0, c1, c2, c3, c4, c5, c6, c7, d0, d1, d2, d3, d4, d5, d6, d7⟩
          go_simp
          with_reducible rfl
        rotate_left
        · simp only [Act.put, List.setIfInBounds_toArray, List.set_cons_zero, List.set_cons_succ, i64_w, i32_w]
          rfl
        refine pure_ (i := 12) (N := (some 72)) (v := ?_) (a' := ?_) #[true, true, true, true, true, true, true, true, true, true, true, true, true, false, false, false] rfl rfl (any_of HT_.out (by kernel_rfl)) (fun _ _ _ h => h) (Or.inl ⟨by rfl, ?_⟩) ?_ ?_
        rotate_left
        · intro w'
          go_simp
          with_reducible rfl
        rotate_left
        · simp only [Act.put, List.setIfInBounds_toArray, List.set_cons_zero, List.set_cons_succ, i64_w, i32_w]
          rfl
        refine last_ (i := 13) (N := none) #[true, true, true, true, true, true, true, true, true, true, true, true, true, true, false, false] rfl rfl (one_of HT_.out (by kernel_rfl)) (by decide) (fun K hK => ?_)
        refine skip_ (w1 := (setE wr b2 (i * 8) ⟨s0, s1, s2, s3, s4, s5, s6, s7⟩).drew) (by rfl) rfl (by first | (go_simp; done) | (go_simp; rfl)) ?_
        refine hK.out _ _ ?_
        clear hK K
        obtain ⟨wq, hwq⟩ : ∃ wq, wq = setE wr b2 (i * 8) ⟨s0, s1, s2, s3, s4, s5, s6, s7⟩ := ⟨_, rfl⟩
        rw [← hwq] at HEq HEs HBs ⊢
        obtain ⟨hcq, hfq, -, -, -⟩ := HEq.out.reads
        obtain ⟨f0, f1, f2, f3, f4, f5, f6, f7⟩ := hcq k HKl.out
        clear hcq hwq c0 c1 c2 c3 c4 c5 c6 c7 d0 d1 d2 d3 d4 d5 d6 d7 hfz
        refine pure_ (i := 14) (N := (some 73)) (v := ?_) (a' := ?_) #[true, true, true, true, true, true, true, true, true, true, true, true, true, true, true, false] rfl rfl (any_of HT_.out (by kernel_rfl)) (fun _ _ _ h => h) (Or.inl ⟨by rfl, ?_⟩) ?_ ?_
        rotate_left
        · intro w'
          go_simp
          with_reducible rfl
        rotate_left
        · simp only [Act.put, List.setIfInBounds_toArray, List.set_cons_zero, List.set_cons_succ, i64_w, i32_w]
          rfl
        refine last_ (i := 15) (N := none) #[true, true, true, true, true, true, true, true, true, true, true, true, true, true, true, true] rfl rfl (one_of HT_.out (by kernel_rfl)) (by decide) (fun K hK => ?_)
        refine skip_ (w1 := (setE wq b2 (k * 8) ⟨t0, t1, t2, t3, t4, t5, t6, t7⟩).drew) (by rfl) rfl (by first | (go_simp; done) | (go_simp; rfl)) ?_
        refine hK.out _ _ ?_
        clear hK K
        refine done_ (done_of HT_.out (by kernel_rfl)) ?_
        clear f0 f1 f2 f3 f4 f5 f6 f7 hfq
        have hko : (k : Int) - 1 = (n : Int) - 1 - ((i + 1 : Nat) : Int) := by have := HK.out; omega
        obtain ⟨wS, hwS⟩ : ∃ wS, wS = (setE wq b2 (k * 8) ⟨t0, t1, t2, t3, t4, t5, t6, t7⟩).drew := ⟨_, rfl⟩
        rw [← hwS] at HEs HBs ⊢
        have HKo := Aside0.mk hko
        clear hwS hko
        go_wp2
        go_roundw
        case rel => exact ⟨i + 1, (mm.set i ⟨s0, s1, s2, s3, s4, s5, s6, s7⟩).set k ⟨t0, t1, t2, t3, t4, t5, t6, t7⟩, by go_num, by rw [← HKo.out], by omega, HSw, HEs, HBs⟩
        case measure => simp [intOf]; omega
      · go_wp2_with fail
        obtain ⟨wz, hwz⟩ : ∃ wz, wz = wr := ⟨_, rfl⟩
        obtain ⟨mz, hmz⟩ : ∃ mz, mz = mm := ⟨_, rfl⟩
        rw [← hwz, ← hmz] at HEm
        rw [← hwz] at HBm ⊢
        rw [← hmz] at HMm
        have HEz := HEm
        have HBz : Aside0 (Below w.heap.size w wz) := ⟨HBW.out.trans (HBm.out.mono HB3.out.size)⟩
        have HMz := HMm
        clear hwz hmz HEm HBW HMm HBW2 HBm HBx HMem HE2 hlt ha hW2s
        have hoff := offered_calls slack m A c l wz (HI.out.below HBz.out) (by rw [HN.out.2.2]; exact hc) (by rw [HN.out.2.2]; omega) HSh.out (pw_cell_below HBz.out HM.out)
        rw [HN.out.2.2] at hoff
        have HOff := Aside0.mk hoff
        clear hoff
        go_wp2_with fail
        refine HOff.out.mono ?_
        rintro e wx ⟨yx, ix, fx, rfl, hkx, hox⟩
        have HKx := Aside0.mk hkx
        have HOx := Aside0.mk hox
        have hevz : EvsIn wz (some ⟨b2, 0, none⟩) mz := evAt_evsIn (c := q2) HEz.out (by rw [HMz.out.1])
        have HEx := Aside0.mk (hevz.below hkx.bel)
        have HBx := Aside0.mk (HBz.out.trans (hkx.bel.mono HBz.out.size))
        clear hkx hox hevz HOff
        obtain ⟨gx, hgx⟩ : ∃ gx, gx = yx.g := ⟨_, rfl⟩
        have HGx := Aside0.mk hgx.symm
        rw [← hgx]
        clear hgx
        have hoff := offered_calls slack m (some ⟨b2, 0, none⟩) q2 mz wx HEx.out (by rw [HMz.out.1]; exact hq2) (by rw [HMz.out.1]; omega) (fun e he => HSh.out e ((HMz.out.2 e).1 he)) (pw_cell_below HBx.out HM.out)
        rw [HMz.out.1] at hoff
        have HOff := Aside0.mk hoff
        clear hoff
        go_wp2_with fail
        refine HOff.out.mono ?_
        rintro e wy ⟨yy, iy, fy, rfl, hky, hoy⟩
        have HKy := Aside0.mk hky
        have HOy := Aside0.mk hoy
        have HKxy := Aside0.mk (HKx.out.below hky.bel)
        have HBy := Aside0.mk (HBx.out.trans (hky.bel.mono HBx.out.size))
        clear hky hoy HOff HKx HEx
        obtain ⟨gy, hgy⟩ : ∃ gy, gy = yy.g := ⟨_, rfl⟩
        have HGy := Aside0.mk hgy.symm
        rw [← hgy]
        clear hgy
        cases fx
        · go_wp2
          go_ret
          exact ⟨rfl, HBy.out⟩
        cases fy
        · go_wp2
          go_ret
          exact ⟨rfl, HBy.out⟩
        have hlaw := order_law HOx.out HOy.out (fun e => (HMz.out.2 e).symm) HAlike.out HKxy.out.ok.ord HKy.out.ok.ord HKxy.out.at_.gone.rise HKy.out.at_.gone.rise
        have HLaw := Aside0.mk hlaw
        clear hlaw
        have hN1 : l.length ≤ 1000000 := by rw [HN.out.2.2]; omega
        have hN2 : mz.length ≤ 1000000 := by rw [HMz.out.1]; omega
        have HTx := Aside0.mk (taken_kept HKxy.out HGx.out hN1)
        have HNn := Aside0.mk (And.intro hN1 hN2)
        clear hN1 hN2
        go_wp2_with fail
        refine HTx.out.mono ?_
        rintro r wa ⟨va, rfl, hea, hba⟩
        have HKxa := Aside0.mk (HKxy.out.below hba)
        have HKya := Aside0.mk (HKy.out.below hba)
        have HBa := Aside0.mk (HBy.out.trans (hba.mono HBy.out.size))
        obtain ⟨Aa, ca, hva, hla, -, hCa⟩ := evAt_C hea
        have HCa := Aside0.mk hCa
        have HTa := Aside0.mk (taken_kept HKya.out HGy.out HNn.out.2)
        have hta := HKxa.out.ok.tlen
        obtain ⟨nt, hnt⟩ : ∃ nt, nt = ix.taken.length := ⟨_, rfl⟩
        rw [← hnt] at hva hla hta
        have HNt := Aside0.mk hnt
        subst hva
        clear hea hba hCa hnt HTx HKxy HKy
        go_wp2_with fail
        refine HTa.out.mono ?_
        rintro r wb ⟨vb, rfl, heb, hbb⟩
        have HKxb := Aside0.mk (HKxa.out.below hbb)
        have HKyb := Aside0.mk (HKya.out.below hbb)
        have HBb := Aside0.mk (HBa.out.trans (hbb.mono HBa.out.size))
        rw [← HLaw.out.1] at heb
        obtain ⟨Ab, cb, hvb, hlb, -, hCb⟩ := evAt_C heb
        rw [← HNt.out] at hvb hlb
        have hsm := same_calls Aa Ab ca cb ix.taken wb (Kd.C_below HCa.out hbb) (by rw [← HNt.out]; exact hla) hCb (by rw [← HNt.out]; exact hlb) (by rw [← HNt.out]; have h9 := HNn.out.1; omega)
        rw [← HNt.out] at hsm
        have HSm := Aside0.mk hsm
        subst hvb
        clear heb hbb hCb hsm hla hlb hta HTa HKxa HKya
        go_wp2_with fail
        refine HSm.out.mono ?_
        rintro r wc ⟨rfl, hbc⟩
        have HKxc := Aside0.mk (HKxb.out.below hbc)
        have HKyc := Aside0.mk (HKyb.out.below hbc)
        have HBc := Aside0.mk (HBb.out.trans (hbc.mono HBb.out.size))
        have hgx := inGone_calls _ yx ix wc HKxc.out.at_ (by have h9 := HKxc.out.mn; have h8 := HNn.out.1; omega)
        rw [HGx.out] at hgx
        have HGo := Aside0.mk hgx
        clear hbc hgx HSm HKxb HKyb
        go_wp2_with fail
        refine HGo.out.mono ?_
        rintro r wd ⟨Ad, cd, rfl, hld, -, hCd, hbd⟩
        have HKyd := Aside0.mk (HKyc.out.below hbd)
        have HBd := Aside0.mk (HBc.out.trans (hbd.mono HBc.out.size))
        have HCd := Aside0.mk hCd
        have hgy := inGone_calls _ yy iy wd HKyd.out.at_ (by have h9 := HKyd.out.mn; have h8 := HNn.out.2; omega)
        rw [HGy.out, show keysL iy.gone = keysL ix.gone from HLaw.out.2.symm] at hgy
        have HGo2 := Aside0.mk hgy
        have hgl : (keysL ix.gone).length ≤ 1000000000 := by
          have h9 := HKxc.out.mn
          have h8 := HKxc.out.at_.gone.le
          have h7 := HNn.out.1
          unfold keysL; rw [List.length_map]; omega
        obtain ⟨ng, hng⟩ : ∃ ng, ng = (keysL ix.gone).length := ⟨_, rfl⟩
        rw [← hng] at hld hgl
        rw [← hng]
        have HNg := Aside0.mk hng
        clear hng hbd hCd hgy HGo HKyc
        go_wp2_with fail
        refine HGo2.out.mono ?_
        rintro r we ⟨Ae, ce, rfl, hle, -, hCe, hbe⟩
        have HBe := Aside0.mk (HBd.out.trans (hbe.mono HBd.out.size))
        have htx := texts_calls Ad Ae cd ce (keysL ix.gone) we (Kd.C_below HCd.out hbe) (by rw [← HNg.out]; exact hld) hCe hle (by rw [← HNg.out]; exact hgl)
        rw [← HNg.out] at htx hle
        have HTxt := Aside0.mk htx
        rw [← HNg.out]
        clear htx hCe hbe hld hgl HGo2
        go_wp2_with fail
        refine HTxt.out.mono ?_
        rintro r wf ⟨rfl, hbf⟩
        have HBf := Aside0.mk (HBe.out.trans (hbf.mono HBe.out.size))
        clear hbf hle HTxt
        go_wp2
        go_ret
        exact ⟨rfl, HBf.out⟩
end Go.Proofs.YtmmfoeckggpgdaaGreatDoor
