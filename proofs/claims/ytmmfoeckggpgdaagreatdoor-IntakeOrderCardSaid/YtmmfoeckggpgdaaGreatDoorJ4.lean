/-
  The walk of dedupe's Put: a number that isn't there yet is put in. An intake in memory; its Mark and Taken. A new intake. An intake that is changed: its parts, one by one. The order of events, plainly. What offering an event comes to, plainly.
-/
import Derived.Test.YtmmfoeckggpgdaaGreatDoorJA
import Derived.Test.YtmmfoeckggpgdaaGreatDoorJ3
import Derived.Sort.Walk0
import Derived.Test.YtmmfoeckggpgdaaGreatDoorJ8
set_option linter.unusedSimpArgs false
set_option linter.unusedVariables false
namespace Go.Proofs.YtmmfoeckggpgdaaGreatDoor
open Go.RowKit Go.Lib Go.Maps Go.Proofs.YtmmfoeckggpgdaaGreatDoorW.PrintWords

theorem rowC_set0 : ∀ (A : List (Int × Int)) (a z a' : Int) (B : List (Int × Int)), (rowC (A ++ (a, z) :: B)).set (A.length * 2) (.int .i64 a') = rowC (A ++ (a', z) :: B)
  | [], _, _, _, _ => rfl
  | r :: A, a, z, a', B => by
    rw [List.cons_append, rowC_cons, List.length_cons, show (A.length + 1) * 2 = A.length * 2 + 1 + 1 by omega, List.set_cons_succ, List.set_cons_succ, rowC_set0 A a z a' B]; rfl
theorem rowC_set1 : ∀ (A : List (Int × Int)) (a z z' : Int) (B : List (Int × Int)), (rowC (A ++ (a, z) :: B)).set (A.length * 2 + 1) (.int .i64 z') = rowC (A ++ (a, z') :: B)
  | [], _, _, _, _ => rfl
  | r :: A, a, z, z', B => by
    rw [List.cons_append, rowC_cons, List.length_cons, show (A.length + 1) * 2 + 1 = A.length * 2 + 1 + 1 + 1 by omega, List.set_cons_succ, List.set_cons_succ, rowC_set1 A a z z' B]; rfl
theorem rowC_take (A B : List (Int × Int)) : (rowC (A ++ B)).take (A.length * 2) = rowC A := by
  rw [rowC_append]; exact List.take_left' (rowC_len A)
theorem rowC_drop (A B : List (Int × Int)) : (rowC (A ++ B)).drop (A.length * 2) = rowC B := by
  rw [rowC_append]; exact List.drop_left' (rowC_len A)
/-- what Put leaves -/
def PutPost (base g b n : Nat) (L : List (ByteArray × Row)) (s : ByteArray) (x : Int) (w : World) (e : Ending) (W : World) : Prop :=
  e = .returned (.bool true) ∧ ∃ L', SetAt W base g b (n + 1) L' ∧ (∀ s' x', hasS L' s' x' = (decide (s' = s ∧ x' = x) || hasS L s' x')) ∧ Fr (setS g b L) w W ∧ ∀ k, setS g b L' k → setS g b L k ∨ w.heap.size ≤ k
/-- a row that was changed -/
structure RowGo (base : Nat) (v : Value) (row' : List (Int × Int)) (w W : World) (v' : Value) : Prop where
  row : RowAt W base v' row'
  fr : Fr (fun k => v.ownBlock = some k) w W
  loc : v'.ownBlock = v.ownBlock ∨ ∃ k, v'.ownBlock = some k ∧ w.heap.size ≤ k
theorem put_end {w W W2 : World} {base g b n : Nat} {L : List (ByteArray × Row)} {s : ByteArray} {x : Int} {v v' : Value} {row row' : List (Int × Int)} (h : SetAt w base g b n L) (hv : (v, row) = (getL L s).getD noRow) (hg : RowGo base v row' w W v') (hp : PutOk row x row') (hl : row'.length ≤ n + 1)
    (hmap : TMap rowV Tryz.prog 9 W2 b (n + 1) (putL L s (v', row'))) (hg2 : W.grownBy W2 (some b)) : PutPost base g b n L s x w (.returned (.bool true)) W2 := by
  have e1 : ((getL L s).getD noRow).1 = v := by rw [← hv]
  have e2 : ((getL L s).getD noRow).2 = row := by rw [← hv]
  obtain ⟨h1, h2, h3⟩ := h.put (s := s) (by rw [e1]; exact hg.fr) hg.row hp.1 hl (by rw [e1]; exact hg.loc) hmap hg2
  exact ⟨rfl, _, h1, fun s' x' => hasS_put (by rw [e2]; exact hp) s' x', h2, h3⟩
theorem RowGo.map {base g b n : Nat} {L : List (ByteArray × Row)} {s : ByteArray} {v v' : Value} {row row' : List (Int × Int)} {w W : World} (hg : RowGo base v row' w W v') (h : SetAt w base g b n L) (hv : (v, row) = (getL L s).getD noRow) : TMap rowV Tryz.prog 9 W b n L ∧ W.heap[g]? = some (.cells #[.map (some b)] 108 (0, 0)) := by
  have e1 : ((getL L s).getD noRow).1 = v := by rw [← hv]
  obtain ⟨es, clock, hbo⟩ := h.map_obj
  have hvb : ∀ k, v.ownBlock = some k → ∃ cells, w.heap[k]? = some (.cells cells 111 (0, 0)) := fun k hk => rowAt_typed (h.row s).1 k (by rw [e1]; exact hk)
  refine ⟨h.map.move (hg.fr.block b h.map.lt (fun hk => ?_)), hg.fr.blk h.blk (fun hk => ?_)⟩
  · obtain ⟨cells, hc⟩ := hvb b hk
    rw [hbo] at hc; cases hc
  · obtain ⟨cells, hc⟩ := hvb g hk
    rw [h.blk] at hc
    injection hc with hc
    injection hc with _ hc _
    cases hc
theorem rowGo_set {base rg c : Nat} {row row' : List (Int × Int)} {w : World} (h : RowAt w base (.slice (some ⟨rg, 0, none⟩) row.length c) row) (j : Nat) (u : Value) (he : (rowC row).set j u = rowC row') (hl : row'.length = row.length) : RowGo base (.slice (some ⟨rg, 0, none⟩) row.length c) row' w (w.setCell ⟨rg, j, none⟩ u) (.slice (some ⟨rg, 0, none⟩) row.length c) := by
  obtain ⟨h1, h2⟩ := World.ownsRow.stored h j u
  rw [he] at h1
  refine ⟨by unfold RowAt; rw [hl]; exact h1, ?_, .inl rfl⟩
  exact (Fr.refl (fun k => (Value.slice (some ⟨rg, 0, none⟩) row.length c).ownBlock = some k) w).setCell (p := ⟨rg, j, none⟩) (.inl rfl) u
theorem rowGo_post {base : Nat} {v : Value} {n : Nat} {cells : List Value} {row' : List (Int × Int)} {w : World} {e : Ending} {W : World} (h : RowPost base 111 2 v n cells w e W) (hn : n = row'.length) (hc : cells = rowC row') : ∃ v', e = .returned v' ∧ RowGo base v row' w W v' := by
  obtain ⟨v', he, ho, hf, hl⟩ := h
  subst hn hc
  exact ⟨v', he, ho, hf, hl⟩
set_option maxHeartbeats 2000000 in
set_option maxRecDepth 100000 in
theorem put_calls (base g b n : Nat) (L : List (ByteArray × Row)) (s : ByteArray) (x : Int) (w : World) (h : SetAt w base g b n L) (hb : base ≤ w.heap.size) (hs : nameB s = true) (hx1 : 1 ≤ x) (hx2 : x ≤ 1099511627776) (hno : hasS L s x = false) (hn : n ≤ 1000000000) :
    Calls Tryz.prog 101 #[.pointer (some ⟨g, 0, none⟩), .string s, .int .i64 x] w fun e w' => PutPost base g b n L s x w e w' := by
  have H := Aside0.mk h
  have p0 := blk_cell h.blk 0
  have hlk := h.map.look Tryz.underlying9 Tryz.underlying106 (z := noRow) (zero_row _) (nameB_len hs)
  obtain ⟨h1, h2, h3, _⟩ := h.row s
  have hlv : inR ((getL L s).getD noRow).2 x = false := hno
  obtain ⟨p, hp⟩ : ∃ p, p = (getL L s).getD noRow := ⟨_, rfl⟩
  rw [← hp] at hlk h1 h2 h3 hlv
  obtain ⟨v, row⟩ := p
  have HR : Aside0 (RowAt w base v row) := ⟨h1⟩
  have HOK : Aside0 (RowOk row) := ⟨h2⟩
  have HV := Aside0.mk hp
  have HIN : Aside0 (inR row x = false) := ⟨hlv⟩
  have h3' : row.length ≤ n := h3
  unfold rowV at hlk
  simp only at hlk
  have HNm := Aside0.mk hs
  have HB := Aside0.mk hb
  have HX := Aside0.mk (And.intro hx1 hx2)
  have hmay : (nameB s && decide (1 ≤ x) && decide (x ≤ 1099511627776)) = true := by rw [hs]; simp [hx1, hx2]
  have HMay := Aside0.mk hmay
  clear h h1 h2 h3 hp hlv hs hno hmay hb
  go_enter Tryz.func101, Tryz.ntmps101
  go_wp2_with fail
  refine (dMay_calls s x w).mono ?_
  rintro e w1 ⟨rfl, hb1⟩
  rw [HMay.out]
  have HB1 := Aside0.mk hb1
  have HR1 := Aside0.mk (HR.out.below hb1)
  clear hb1 hlk
  go_wp2_with fail
  refine (in_calls base v row x w1 HR1.out HOK.out (by omega)).mono ?_
  rintro e w2 ⟨rfl, hb2⟩
  rw [HIN.out]
  have HB2 := Aside0.mk (HB1.out.trans (hb2.mono HB1.out.size))
  have HR2 := Aside0.mk (HR1.out.below hb2)
  clear hb2 HB1 HR1
  go_wp2_with fail
  refine (place_calls base v row x w2 HR2.out HOK.out (by omega)).mono ?_
  rintro e w3 ⟨rfl, hb3⟩
  have HB3 := Aside0.mk (HB2.out.trans (hb3.mono HB2.out.size))
  have HR3 := Aside0.mk (HR2.out.below hb3)
  have H3 := Aside0.mk (H.out.below HB3.out)
  have HBs : Aside0 (base ≤ w3.heap.size) := ⟨Nat.le_trans HB.out HB3.out.size⟩
  have HPE : Aside0 (∀ e W, PutPost base g b n L s x w3 e W → PutPost base g b n L s x w e W) := ⟨fun e W ⟨h1, L', h2, h3, h4, h5⟩ => ⟨h1, L', h2, h3, (Fr.of_below HB3.out (setS g b L)).then_ h4 (fun k hk => .inl hk), fun k hk => (h5 k hk).imp id (fun h => Nat.le_trans HB3.out.size h)⟩⟩
  clear hb3 HB2 HR2 p0
  obtain ⟨L0, R0, e, hl, hL, hR⟩ := parted row x HOK.out
  have hin := in_parted (L := L0) (R := R0) (n := x) (by rw [← e]; exact HOK.out) hL hR
  rw [← e, HIN.out] at hin
  obtain ⟨i, hi⟩ : ∃ i, i = placeR row x := ⟨_, rfl⟩
  rw [← hi] at hl ⊢
  clear hi
  obtain ⟨A, c, hv, hnc, hcm, hc⟩ := HR3.out.form
  subst hv
  have hc63 : c ≤ 9223372036854775807 := by unfold maxLen at hcm; omega
  have hlen : row.length = L0.length + R0.length := by rw [e, List.length_append]
  have HCell := Aside0.mk hc
  have HOkE := HOK
  clear hc hcm
  have hxx := HX.out
  rcases List.eq_nil_or_concat L0 with hL0 | ⟨L1, ⟨a, z⟩, hL0⟩
  · obtain rfl : L0 = [] := hL0
    obtain rfl : i = 0 := hl.symm
    cases R0 with
    | nil =>
      have HE := Aside0.mk e
      have hLx : ∀ p ∈ ([] : List (Int × Int)), p.2 < x := by simp
      have hRx : ∀ p ∈ ([] : List (Int × Int)), x + 1 < p.1 := by simp
      have hni : ¬ ((0 : Int) < (row.length : Int)) := by rw [hlen]; simp
      have HLL := Aside0.mk hlen
      have hile : 0 ≤ row.length := by rw [hlen]; simp; try omega
      clear e hL hR hin hlen
      have HNew : Aside0 (PutOk row x ([] ++ (x, x + 1) :: [])) := ⟨by have hokE := HOK.out; rw [HE.out] at hokE ⊢; exact put_default (L := []) (R := []) hokE hLx hRx hxx⟩
      have hvv := HV.out
      clear hLx hRx
      go_wp2_with fail
      have hins := ri_insert_calls base _ row.length 0 (rowC row) [.int .i64 x, .int .i64 (x + 1)] w3 HR3.out rowC_one rfl (by simp [Value.oneCell']) (by omega) (by omega) HBs.out
      rw [show ((0 : Nat) : Int) = (0 : Int) from by simp] at hins
      refine hins.mono ?_
      clear hins
      intro e w5 h5
      obtain ⟨v5, rfl, HG5'⟩ := rowGo_post h5 (row' := [] ++ (x, x + 1) :: []) (by rw [HE.out]; simp; try omega) (by rw [HE.out, ← hl, rowC_take, rowC_drop]; simp [rowC_append, rowC_cons, show rowC [] = [] from rfl])
      have HG := Aside0.mk HG5'
      clear h5 HG5'
      have HM5 := Aside0.mk (HG.out.map H3.out HV.out).1
      have p5 := blk_cell (HG.out.map H3.out HV.out).2 0
      clear hvv
      go_wp2_with (at_mapUpdate; refine wpList_store_T (mk := rowV) rfl _ _ _ 106 rfl Tryz.underlying9 Tryz.underlying106 rfl HM5.out (by unfold maxLen; omega) s (nameB_len HNm.out) (v5, [] ++ (x, x + 1) :: []) rfl rfl ?_)
      intro W6 hm6 hg6 hs6
      have HPP := Aside0.mk (HPE.out _ _ (put_end H3.out HV.out HG.out HNew.out (by have q := HLL.out; have q2 := h3'; simp at q ⊢; try omega) hm6 hg6))
      clear hm6 hg6 hs6 p5
      go_wp2
      go_ret
      exact HPP.out
    | cons q R1 =>
      obtain ⟨cc, d⟩ := q
      have hcx : x < cc := by simp [headLe] at hin; omega
      by_cases hce : cc = x + 1
      · subst hce
        have HE := Aside0.mk e
        have hLx : ∀ p ∈ ([] : List (Int × Int)), p.2 < x := by simp
        obtain ⟨rg, hA, hrgl, hbrg, hcell⟩ := HCell.out (by rw [hlen]; simp; try omega)
        subst hA
        have hcc := (hcell 0 (by rw [hlen]; simp; try omega)).1
        have hcd := (hcell 0 (by rw [hlen]; simp; try omega)).2.1
        have hfz2 := (hcell 0 (by rw [hlen]; simp; try omega)).2.2.1
        have he2 : (row[0]'(by rw [hlen]; simp; try omega)) = ((x + 1), d) := by have h1 := HE.out; subst h1; simp
        rw [he2] at hcc hcd
        simp only at hcc hcd
        have hni : (0 : Int) < (row.length : Int) := by rw [hlen]; simp; try omega
        have HLL := Aside0.mk hlen
        have hile : 0 ≤ row.length := by rw [hlen]; simp; try omega
        clear e hL hR hin hlen hcell he2
        have HNew : Aside0 (PutOk row x ([] ++ (x, d) :: R1)) := ⟨by have hokE := HOK.out; rw [HE.out] at hokE ⊢; exact put_behind (L := []) (R := R1) (d := d) hokE hLx hxx⟩
        have hvv := HV.out
        clear hLx
        have HG : Aside0 (RowGo base (.slice (some ⟨rg, 0, none⟩) row.length c) ([] ++ (x, d) :: R1) w3 (w3.setCell ⟨rg, 0 * 2, none⟩ (.int .i64 x)) (.slice (some ⟨rg, 0, none⟩) row.length c)) := ⟨rowGo_set HR3.out _ _ (by rw [HE.out]; simpa using rowC_set0 [] (x + 1) d x R1) (by rw [HE.out]; simp)⟩
        have HM5 := Aside0.mk (HG.out.map H3.out HV.out).1
        have p5 := blk_cell (HG.out.map H3.out HV.out).2 0
        clear hvv
        go_wp2_with (at_mapUpdate; refine wpList_store_T (mk := rowV) rfl _ _ _ 106 rfl Tryz.underlying9 Tryz.underlying106 rfl HM5.out (by unfold maxLen; omega) s (nameB_len HNm.out) ((.slice (some ⟨rg, 0, none⟩) row.length c), [] ++ (x, d) :: R1) rfl rfl ?_)
        intro W6 hm6 hg6 hs6
        have HPP := Aside0.mk (HPE.out _ _ (put_end H3.out HV.out HG.out HNew.out (by have q := HLL.out; have q2 := h3'; simp at q ⊢; try omega) hm6 hg6))
        clear hm6 hg6 hs6 p5
        go_wp2
        go_ret
        exact HPP.out
      · skip
        have HE := Aside0.mk e
        have hLx : ∀ p ∈ ([] : List (Int × Int)), p.2 < x := by simp
        have hRx : ∀ p ∈ (cc, d) :: R1, x + 1 < p.1 := fun p hp => by rcases List.mem_cons.1 hp with rfl | hp; · { simp only; omega }; · { have hok := HOK.out; rw [e] at hok; have h3 := (rowOk_cons.1 (rowOk_append.1 hok).2.1); have h4 := h3.2.2 p hp; have h5 := h3.1; simp only at h4 h5; omega }
        obtain ⟨rg, hA, hrgl, hbrg, hcell⟩ := HCell.out (by rw [hlen]; simp; try omega)
        subst hA
        have hcc := (hcell 0 (by rw [hlen]; simp; try omega)).1
        have hcd := (hcell 0 (by rw [hlen]; simp; try omega)).2.1
        have hfz2 := (hcell 0 (by rw [hlen]; simp; try omega)).2.2.1
        have he2 : (row[0]'(by rw [hlen]; simp; try omega)) = (cc, d) := by have h1 := HE.out; subst h1; simp
        rw [he2] at hcc hcd
        simp only at hcc hcd
        have hcx1 : (cc == x + 1) = false := beq_eq_false_iff_ne.2 hce
        have hni : (0 : Int) < (row.length : Int) := by rw [hlen]; simp; try omega
        have HLL := Aside0.mk hlen
        have hile : 0 ≤ row.length := by rw [hlen]; simp; try omega
        clear e hL hR hin hlen hcell he2
        have HNew : Aside0 (PutOk row x ([] ++ (x, x + 1) :: ((cc, d) :: R1))) := ⟨by have hokE := HOK.out; rw [HE.out] at hokE ⊢; exact put_default (L := []) (R := ((cc, d) :: R1)) hokE hLx hRx hxx⟩
        have hvv := HV.out
        clear hLx hRx
        go_wp2_with fail
        have hins := ri_insert_calls base _ row.length 0 (rowC row) [.int .i64 x, .int .i64 (x + 1)] w3 HR3.out rowC_one rfl (by simp [Value.oneCell']) (by omega) (by omega) HBs.out
        rw [show ((0 : Nat) : Int) = (0 : Int) from by simp] at hins
        refine hins.mono ?_
        clear hins
        intro e w5 h5
        obtain ⟨v5, rfl, HG5'⟩ := rowGo_post h5 (row' := [] ++ (x, x + 1) :: ((cc, d) :: R1)) (by rw [HE.out]; simp; try omega) (by rw [HE.out, ← hl, rowC_take, rowC_drop]; simp [rowC_append, rowC_cons, show rowC [] = [] from rfl])
        have HG := Aside0.mk HG5'
        clear h5 HG5'
        have HM5 := Aside0.mk (HG.out.map H3.out HV.out).1
        have p5 := blk_cell (HG.out.map H3.out HV.out).2 0
        clear hvv
        go_wp2_with (at_mapUpdate; refine wpList_store_T (mk := rowV) rfl _ _ _ 106 rfl Tryz.underlying9 Tryz.underlying106 rfl HM5.out (by unfold maxLen; omega) s (nameB_len HNm.out) (v5, [] ++ (x, x + 1) :: ((cc, d) :: R1)) rfl rfl ?_)
        intro W6 hm6 hg6 hs6
        have HPP := Aside0.mk (HPE.out _ _ (put_end H3.out HV.out HG.out HNew.out (by have q := HLL.out; have q2 := h3'; simp at q ⊢; try omega) hm6 hg6))
        clear hm6 hg6 hs6 p5
        go_wp2
        go_ret
        exact HPP.out
  · have hL0' : L0 = L1 ++ [(a, z)] := by simpa using hL0
    subst hL0'
    clear hL0
    obtain rfl : i = L1.length + 1 := by simpa using hl.symm
    by_cases hze : z = x
    · have hze2 := hze.symm
      subst hze2
      clear hze
      cases R0 with
      | nil =>
        have HE := Aside0.mk e
        have hRx : ∀ p ∈ ([] : List (Int × Int)), x + 1 < p.1 := by simp
        obtain ⟨rg, hA, hrgl, hbrg, hcell⟩ := HCell.out (by rw [hlen]; simp; try omega)
        subst hA
        have hcz := (hcell L1.length (by rw [hlen]; simp; try omega)).2.1
        have hfz1 := (hcell L1.length (by rw [hlen]; simp; try omega)).2.2.2
        have he1 : (row[L1.length]'(by rw [hlen]; simp; try omega)).2 = x := by have h1 := HE.out; subst h1; simp
        rw [he1] at hcz
        have hni : ¬ ((((L1.length : Nat) : Int) + 1 : Int) < (row.length : Int)) := by rw [hlen]; simp
        have HLL := Aside0.mk hlen
        have hile : (L1.length + 1) ≤ row.length := by rw [hlen]; simp; try omega
        clear e hL hR hin hlen hcell he1
        have HNew : Aside0 (PutOk row x (L1 ++ (a, x + 1) :: [])) := ⟨by have hokE := HOK.out; rw [HE.out] at hokE ⊢; exact put_before (L := L1) (R := []) (a := a) hokE hRx hxx⟩
        have hvv := HV.out
        clear hRx
        have HG : Aside0 (RowGo base (.slice (some ⟨rg, 0, none⟩) row.length c) (L1 ++ (a, x + 1) :: []) w3 (w3.setCell ⟨rg, L1.length * 2 + 1, none⟩ (.int .i64 (x + 1))) (.slice (some ⟨rg, 0, none⟩) row.length c)) := ⟨rowGo_set HR3.out _ _ (by rw [HE.out]; simpa using rowC_set1 L1 a x (x + 1) []) (by rw [HE.out]; simp)⟩
        have HM5 := Aside0.mk (HG.out.map H3.out HV.out).1
        have p5 := blk_cell (HG.out.map H3.out HV.out).2 0
        clear hvv
        go_wp2_with (at_mapUpdate; refine wpList_store_T (mk := rowV) rfl _ _ _ 106 rfl Tryz.underlying9 Tryz.underlying106 rfl HM5.out (by unfold maxLen; omega) s (nameB_len HNm.out) ((.slice (some ⟨rg, 0, none⟩) row.length c), L1 ++ (a, x + 1) :: []) rfl rfl ?_)
        intro W6 hm6 hg6 hs6
        have HPP := Aside0.mk (HPE.out _ _ (put_end H3.out HV.out HG.out HNew.out (by have q := HLL.out; have q2 := h3'; simp at q ⊢; try omega) hm6 hg6))
        clear hm6 hg6 hs6 p5
        go_wp2
        go_ret
        exact HPP.out
      | cons q R1 =>
        obtain ⟨cc, d⟩ := q
        have hcx : x < cc := by simp [headLe] at hin; omega
        by_cases hce : cc = x + 1
        · subst hce
          have HE := Aside0.mk e
          obtain ⟨rg, hA, hrgl, hbrg, hcell⟩ := HCell.out (by rw [hlen]; simp; try omega)
          subst hA
          have hcz := (hcell L1.length (by rw [hlen]; simp; try omega)).2.1
          have hfz1 := (hcell L1.length (by rw [hlen]; simp; try omega)).2.2.2
          have he1 : (row[L1.length]'(by rw [hlen]; simp; try omega)).2 = x := by have h1 := HE.out; subst h1; simp
          rw [he1] at hcz
          have hcc := (hcell (L1.length + 1) (by rw [hlen]; simp; try omega)).1
          have hcd := (hcell (L1.length + 1) (by rw [hlen]; simp; try omega)).2.1
          have hfz2 := (hcell (L1.length + 1) (by rw [hlen]; simp; try omega)).2.2.1
          have he2 : (row[(L1.length + 1)]'(by rw [hlen]; simp; try omega)) = ((x + 1), d) := by have h1 := HE.out; subst h1; simp
          rw [he2] at hcc hcd
          simp only at hcc hcd
          have hni : (((L1.length : Nat) : Int) + 1 : Int) < (row.length : Int) := by rw [hlen]; simp; try omega
          have HLL := Aside0.mk hlen
          have hile : (L1.length + 1) ≤ row.length := by rw [hlen]; simp; try omega
          clear e hL hR hin hlen hcell he1 he2
          have HNew : Aside0 (PutOk row x (L1 ++ (a, d) :: R1)) := ⟨by have hokE := HOK.out; rw [HE.out] at hokE ⊢; exact put_both (L := L1) (R := R1) (a := a) (d := d) hokE hxx⟩
          have hvv := HV.out
          have hml : row.length = (L1.length + 1 + R1.length) + 1 := by rw [HE.out]; simp; omega
          have HG1 : Aside0 (RowGo base (.slice (some ⟨rg, 0, none⟩) row.length c) (L1 ++ (a, d) :: (x + 1, d) :: R1) w3 (w3.setCell ⟨rg, L1.length * 2 + 1, none⟩ (.int .i64 d)) (.slice (some ⟨rg, 0, none⟩) row.length c)) := ⟨rowGo_set HR3.out _ _ (by rw [HE.out]; simpa using rowC_set1 L1 a x d ((x + 1, d) :: R1)) (by rw [HE.out]; simp)⟩
          have hrl : (L1 ++ (a, d) :: (x + 1, d) :: R1).length = row.length := by rw [HE.out]; simp
          have HRg := Aside0.mk HG1.out.row
          obtain ⟨W4, e4⟩ : ∃ W4, W4 = w3.setCell ⟨rg, L1.length * 2 + 1, none⟩ (.int .i64 d) := ⟨_, rfl⟩
          clear hvv
          have HML := Aside0.mk hml
          have hml2 : L1.length + 1 < row.length := by omega
          clear hml
          go_wp2_with fail
          rw [← e4] at HG1 HRg ⊢
          have hrg := HRg.out
          unfold RowAt at hrg
          rw [hrl, HML.out] at hrg
          rw [HML.out]
          refine (ri_delete_calls base rg (L1.length + 1 + R1.length) c (L1.length + 1) _ W4 hrg rowC_one (by omega)).mono ?_
          intro e w5 h5
          obtain ⟨v5, rfl, HG5'⟩ := rowGo_post h5 (row' := L1 ++ (a, d) :: R1) (by simp; omega) (by have q1 := rowC_take (L1 ++ [(a, d)]) ((x + 1, d) :: R1); have q2 := rowC_drop (L1 ++ [(a, d), (x + 1, d)]) R1; simp only [List.append_assoc, List.cons_append, List.nil_append, List.length_append, List.length_cons, List.length_nil] at q1 q2; rw [q1, q2, ← rowC_append]; simp)
          have HG := Aside0.mk (RowGo.mk HG5'.row (HG1.out.fr.then_ HG5'.fr (fun k hk => .inl (by rw [HML.out]; exact hk))) (HG5'.loc.imp (fun h => by rw [h, HML.out]) (fun ⟨k, h1, h2⟩ => ⟨k, h1, Nat.le_trans HG1.out.fr.size h2⟩)) : RowGo base (.slice (some ⟨rg, 0, none⟩) row.length c) (L1 ++ (a, d) :: R1) w3 w5 v5)
          clear h5 HG5' hrg
          have HM5 := Aside0.mk (HG.out.map H3.out HV.out).1
          have p5 := blk_cell (HG.out.map H3.out HV.out).2 0
          skip
          go_wp2_with (at_mapUpdate; refine wpList_store_T (mk := rowV) rfl _ _ _ 106 rfl Tryz.underlying9 Tryz.underlying106 rfl HM5.out (by unfold maxLen; omega) s (nameB_len HNm.out) (v5, L1 ++ (a, d) :: R1) rfl rfl ?_)
          intro W6 hm6 hg6 hs6
          have HPP := Aside0.mk (HPE.out _ _ (put_end H3.out HV.out HG.out HNew.out (by have q := HLL.out; have q2 := h3'; simp at q ⊢; try omega) hm6 hg6))
          clear hm6 hg6 hs6 p5
          go_wp2
          go_ret
          exact HPP.out
        · skip
          have HE := Aside0.mk e
          have hRx : ∀ p ∈ (cc, d) :: R1, x + 1 < p.1 := fun p hp => by rcases List.mem_cons.1 hp with rfl | hp; · { simp only; omega }; · { have hok := HOK.out; rw [e] at hok; have h3 := (rowOk_cons.1 (rowOk_append.1 hok).2.1); have h4 := h3.2.2 p hp; have h5 := h3.1; simp only at h4 h5; omega }
          obtain ⟨rg, hA, hrgl, hbrg, hcell⟩ := HCell.out (by rw [hlen]; simp; try omega)
          subst hA
          have hcz := (hcell L1.length (by rw [hlen]; simp; try omega)).2.1
          have hfz1 := (hcell L1.length (by rw [hlen]; simp; try omega)).2.2.2
          have he1 : (row[L1.length]'(by rw [hlen]; simp; try omega)).2 = x := by have h1 := HE.out; subst h1; simp
          rw [he1] at hcz
          have hcc := (hcell (L1.length + 1) (by rw [hlen]; simp; try omega)).1
          have hcd := (hcell (L1.length + 1) (by rw [hlen]; simp; try omega)).2.1
          have hfz2 := (hcell (L1.length + 1) (by rw [hlen]; simp; try omega)).2.2.1
          have he2 : (row[(L1.length + 1)]'(by rw [hlen]; simp; try omega)) = (cc, d) := by have h1 := HE.out; subst h1; simp
          rw [he2] at hcc hcd
          simp only at hcc hcd
          have hcx1 : (cc == x + 1) = false := beq_eq_false_iff_ne.2 hce
          have hni : (((L1.length : Nat) : Int) + 1 : Int) < (row.length : Int) := by rw [hlen]; simp; try omega
          have HLL := Aside0.mk hlen
          have hile : (L1.length + 1) ≤ row.length := by rw [hlen]; simp; try omega
          clear e hL hR hin hlen hcell he1 he2
          have HNew : Aside0 (PutOk row x (L1 ++ (a, x + 1) :: ((cc, d) :: R1))) := ⟨by have hokE := HOK.out; rw [HE.out] at hokE ⊢; exact put_before (L := L1) (R := ((cc, d) :: R1)) (a := a) hokE hRx hxx⟩
          have hvv := HV.out
          clear hRx
          have HG : Aside0 (RowGo base (.slice (some ⟨rg, 0, none⟩) row.length c) (L1 ++ (a, x + 1) :: ((cc, d) :: R1)) w3 (w3.setCell ⟨rg, L1.length * 2 + 1, none⟩ (.int .i64 (x + 1))) (.slice (some ⟨rg, 0, none⟩) row.length c)) := ⟨rowGo_set HR3.out _ _ (by rw [HE.out]; simpa using rowC_set1 L1 a x (x + 1) ((cc, d) :: R1)) (by rw [HE.out]; simp)⟩
          have HM5 := Aside0.mk (HG.out.map H3.out HV.out).1
          have p5 := blk_cell (HG.out.map H3.out HV.out).2 0
          clear hvv
          go_wp2_with (at_mapUpdate; refine wpList_store_T (mk := rowV) rfl _ _ _ 106 rfl Tryz.underlying9 Tryz.underlying106 rfl HM5.out (by unfold maxLen; omega) s (nameB_len HNm.out) ((.slice (some ⟨rg, 0, none⟩) row.length c), L1 ++ (a, x + 1) :: ((cc, d) :: R1)) rfl rfl ?_)
          intro W6 hm6 hg6 hs6
          have HPP := Aside0.mk (HPE.out _ _ (put_end H3.out HV.out HG.out HNew.out (by have q := HLL.out; have q2 := h3'; simp at q ⊢; try omega) hm6 hg6))
          clear hm6 hg6 hs6 p5
          go_wp2
          go_ret
          exact HPP.out
    · skip
      cases R0 with
      | nil =>
        have HE := Aside0.mk e
        have hLx : ∀ p ∈ L1 ++ [(a, z)], p.2 < x := fun p hp => by have h1 := hL p hp; rcases List.mem_append.1 hp with h2 | h2; · { have hok := HOK.out; rw [e, List.append_assoc] at hok; have h3 := (rowOk_append.1 hok).2.2 p h2 (a, z) (by simp); have h4 := (rowOk_append.1 (rowOk_append.1 hok).2.1).1; have h5 := (rowOk_cons.1 h4).1; have h6 := hL (a, z) (by simp); simp only at h3 h5 h6; omega }; · { obtain rfl := List.mem_singleton.1 h2; simp only at h1 ⊢; omega }
        have hRx : ∀ p ∈ ([] : List (Int × Int)), x + 1 < p.1 := by simp
        obtain ⟨rg, hA, hrgl, hbrg, hcell⟩ := HCell.out (by rw [hlen]; simp; try omega)
        subst hA
        have hcz := (hcell L1.length (by rw [hlen]; simp; try omega)).2.1
        have hfz1 := (hcell L1.length (by rw [hlen]; simp; try omega)).2.2.2
        have he1 : (row[L1.length]'(by rw [hlen]; simp; try omega)).2 = z := by have h1 := HE.out; subst h1; simp
        rw [he1] at hcz
        have hzx : (z == x) = false := beq_eq_false_iff_ne.2 hze
        have hni : ¬ ((((L1.length : Nat) : Int) + 1 : Int) < (row.length : Int)) := by rw [hlen]; simp
        have HLL := Aside0.mk hlen
        have hile : (L1.length + 1) ≤ row.length := by rw [hlen]; simp; try omega
        clear e hL hR hin hlen hcell he1
        have HNew : Aside0 (PutOk row x ((L1 ++ [(a, z)]) ++ (x, x + 1) :: [])) := ⟨by have hokE := HOK.out; rw [HE.out] at hokE ⊢; exact put_default (L := (L1 ++ [(a, z)])) (R := []) hokE hLx hRx hxx⟩
        have hvv := HV.out
        clear hLx hRx
        go_wp2_with fail
        have hins := ri_insert_calls base _ row.length (L1.length + 1) (rowC row) [.int .i64 x, .int .i64 (x + 1)] w3 HR3.out rowC_one rfl (by simp [Value.oneCell']) (by omega) (by omega) HBs.out
        rw [show ((L1.length + 1 : Nat) : Int) = ((L1.length : Nat) : Int) + 1 from by simp] at hins
        refine hins.mono ?_
        clear hins
        intro e w5 h5
        obtain ⟨v5, rfl, HG5'⟩ := rowGo_post h5 (row' := (L1 ++ [(a, z)]) ++ (x, x + 1) :: []) (by rw [HE.out]; simp; try omega) (by rw [HE.out, ← hl, rowC_take, rowC_drop]; simp [rowC_append, rowC_cons, show rowC [] = [] from rfl])
        have HG := Aside0.mk HG5'
        clear h5 HG5'
        have HM5 := Aside0.mk (HG.out.map H3.out HV.out).1
        have p5 := blk_cell (HG.out.map H3.out HV.out).2 0
        clear hvv
        go_wp2_with (at_mapUpdate; refine wpList_store_T (mk := rowV) rfl _ _ _ 106 rfl Tryz.underlying9 Tryz.underlying106 rfl HM5.out (by unfold maxLen; omega) s (nameB_len HNm.out) (v5, (L1 ++ [(a, z)]) ++ (x, x + 1) :: []) rfl rfl ?_)
        intro W6 hm6 hg6 hs6
        have HPP := Aside0.mk (HPE.out _ _ (put_end H3.out HV.out HG.out HNew.out (by have q := HLL.out; have q2 := h3'; simp at q ⊢; try omega) (by simp only [List.append_assoc, List.cons_append, List.nil_append]; exact hm6) hg6))
        clear hm6 hg6 hs6 p5
        go_wp2
        go_ret
        exact HPP.out
      | cons q R1 =>
        obtain ⟨cc, d⟩ := q
        have hcx : x < cc := by simp [headLe] at hin; omega
        by_cases hce : cc = x + 1
        · subst hce
          have HE := Aside0.mk e
          have hLx : ∀ p ∈ L1 ++ [(a, z)], p.2 < x := fun p hp => by have h1 := hL p hp; rcases List.mem_append.1 hp with h2 | h2; · { have hok := HOK.out; rw [e, List.append_assoc] at hok; have h3 := (rowOk_append.1 hok).2.2 p h2 (a, z) (by simp); have h4 := (rowOk_append.1 (rowOk_append.1 hok).2.1).1; have h5 := (rowOk_cons.1 h4).1; have h6 := hL (a, z) (by simp); simp only at h3 h5 h6; omega }; · { obtain rfl := List.mem_singleton.1 h2; simp only at h1 ⊢; omega }
          obtain ⟨rg, hA, hrgl, hbrg, hcell⟩ := HCell.out (by rw [hlen]; simp; try omega)
          subst hA
          have hcz := (hcell L1.length (by rw [hlen]; simp; try omega)).2.1
          have hfz1 := (hcell L1.length (by rw [hlen]; simp; try omega)).2.2.2
          have he1 : (row[L1.length]'(by rw [hlen]; simp; try omega)).2 = z := by have h1 := HE.out; subst h1; simp
          rw [he1] at hcz
          have hcc := (hcell (L1.length + 1) (by rw [hlen]; simp; try omega)).1
          have hcd := (hcell (L1.length + 1) (by rw [hlen]; simp; try omega)).2.1
          have hfz2 := (hcell (L1.length + 1) (by rw [hlen]; simp; try omega)).2.2.1
          have he2 : (row[(L1.length + 1)]'(by rw [hlen]; simp; try omega)) = ((x + 1), d) := by have h1 := HE.out; subst h1; simp
          rw [he2] at hcc hcd
          simp only at hcc hcd
          have hzx : (z == x) = false := beq_eq_false_iff_ne.2 hze
          have hni : (((L1.length : Nat) : Int) + 1 : Int) < (row.length : Int) := by rw [hlen]; simp; try omega
          have HLL := Aside0.mk hlen
          have hile : (L1.length + 1) ≤ row.length := by rw [hlen]; simp; try omega
          clear e hL hR hin hlen hcell he1 he2
          have HNew : Aside0 (PutOk row x ((L1 ++ [(a, z)]) ++ (x, d) :: R1)) := ⟨by have hokE := HOK.out; rw [HE.out] at hokE ⊢; exact put_behind (L := (L1 ++ [(a, z)])) (R := R1) (d := d) hokE hLx hxx⟩
          have hvv := HV.out
          clear hLx
          have HG : Aside0 (RowGo base (.slice (some ⟨rg, 0, none⟩) row.length c) ((L1 ++ [(a, z)]) ++ (x, d) :: R1) w3 (w3.setCell ⟨rg, (L1.length + 1) * 2, none⟩ (.int .i64 x)) (.slice (some ⟨rg, 0, none⟩) row.length c)) := ⟨rowGo_set HR3.out _ _ (by rw [HE.out]; simpa using rowC_set0 (L1 ++ [(a, z)]) (x + 1) d x R1) (by rw [HE.out]; simp)⟩
          have HM5 := Aside0.mk (HG.out.map H3.out HV.out).1
          have p5 := blk_cell (HG.out.map H3.out HV.out).2 0
          clear hvv
          go_wp2_with (at_mapUpdate; refine wpList_store_T (mk := rowV) rfl _ _ _ 106 rfl Tryz.underlying9 Tryz.underlying106 rfl HM5.out (by unfold maxLen; omega) s (nameB_len HNm.out) ((.slice (some ⟨rg, 0, none⟩) row.length c), (L1 ++ [(a, z)]) ++ (x, d) :: R1) rfl rfl ?_)
          intro W6 hm6 hg6 hs6
          have HPP := Aside0.mk (HPE.out _ _ (put_end H3.out HV.out HG.out HNew.out (by have q := HLL.out; have q2 := h3'; simp at q ⊢; try omega) (by simp only [List.append_assoc, List.cons_append, List.nil_append]; exact hm6) hg6))
          clear hm6 hg6 hs6 p5
          go_wp2
          go_ret
          exact HPP.out
        · skip
          have HE := Aside0.mk e
          have hLx : ∀ p ∈ L1 ++ [(a, z)], p.2 < x := fun p hp => by have h1 := hL p hp; rcases List.mem_append.1 hp with h2 | h2; · { have hok := HOK.out; rw [e, List.append_assoc] at hok; have h3 := (rowOk_append.1 hok).2.2 p h2 (a, z) (by simp); have h4 := (rowOk_append.1 (rowOk_append.1 hok).2.1).1; have h5 := (rowOk_cons.1 h4).1; have h6 := hL (a, z) (by simp); simp only at h3 h5 h6; omega }; · { obtain rfl := List.mem_singleton.1 h2; simp only at h1 ⊢; omega }
          have hRx : ∀ p ∈ (cc, d) :: R1, x + 1 < p.1 := fun p hp => by rcases List.mem_cons.1 hp with rfl | hp; · { simp only; omega }; · { have hok := HOK.out; rw [e] at hok; have h3 := (rowOk_cons.1 (rowOk_append.1 hok).2.1); have h4 := h3.2.2 p hp; have h5 := h3.1; simp only at h4 h5; omega }
          obtain ⟨rg, hA, hrgl, hbrg, hcell⟩ := HCell.out (by rw [hlen]; simp; try omega)
          subst hA
          have hcz := (hcell L1.length (by rw [hlen]; simp; try omega)).2.1
          have hfz1 := (hcell L1.length (by rw [hlen]; simp; try omega)).2.2.2
          have he1 : (row[L1.length]'(by rw [hlen]; simp; try omega)).2 = z := by have h1 := HE.out; subst h1; simp
          rw [he1] at hcz
          have hcc := (hcell (L1.length + 1) (by rw [hlen]; simp; try omega)).1
          have hcd := (hcell (L1.length + 1) (by rw [hlen]; simp; try omega)).2.1
          have hfz2 := (hcell (L1.length + 1) (by rw [hlen]; simp; try omega)).2.2.1
          have he2 : (row[(L1.length + 1)]'(by rw [hlen]; simp; try omega)) = (cc, d) := by have h1 := HE.out; subst h1; simp
          rw [he2] at hcc hcd
          simp only at hcc hcd
          have hzx : (z == x) = false := beq_eq_false_iff_ne.2 hze
          have hcx1 : (cc == x + 1) = false := beq_eq_false_iff_ne.2 hce
          have hni : (((L1.length : Nat) : Int) + 1 : Int) < (row.length : Int) := by rw [hlen]; simp; try omega
          have HLL := Aside0.mk hlen
          have hile : (L1.length + 1) ≤ row.length := by rw [hlen]; simp; try omega
          clear e hL hR hin hlen hcell he1 he2
          have HNew : Aside0 (PutOk row x ((L1 ++ [(a, z)]) ++ (x, x + 1) :: ((cc, d) :: R1))) := ⟨by have hokE := HOK.out; rw [HE.out] at hokE ⊢; exact put_default (L := (L1 ++ [(a, z)])) (R := ((cc, d) :: R1)) hokE hLx hRx hxx⟩
          have hvv := HV.out
          clear hLx hRx
          go_wp2_with fail
          have hins := ri_insert_calls base _ row.length (L1.length + 1) (rowC row) [.int .i64 x, .int .i64 (x + 1)] w3 HR3.out rowC_one rfl (by simp [Value.oneCell']) (by omega) (by omega) HBs.out
          rw [show ((L1.length + 1 : Nat) : Int) = ((L1.length : Nat) : Int) + 1 from by simp] at hins
          refine hins.mono ?_
          clear hins
          intro e w5 h5
          obtain ⟨v5, rfl, HG5'⟩ := rowGo_post h5 (row' := (L1 ++ [(a, z)]) ++ (x, x + 1) :: ((cc, d) :: R1)) (by rw [HE.out]; simp; try omega) (by rw [HE.out, ← hl, rowC_take, rowC_drop]; simp [rowC_append, rowC_cons, show rowC [] = [] from rfl])
          have HG := Aside0.mk HG5'
          clear h5 HG5'
          have HM5 := Aside0.mk (HG.out.map H3.out HV.out).1
          have p5 := blk_cell (HG.out.map H3.out HV.out).2 0
          clear hvv
          go_wp2_with (at_mapUpdate; refine wpList_store_T (mk := rowV) rfl _ _ _ 106 rfl Tryz.underlying9 Tryz.underlying106 rfl HM5.out (by unfold maxLen; omega) s (nameB_len HNm.out) (v5, (L1 ++ [(a, z)]) ++ (x, x + 1) :: ((cc, d) :: R1)) rfl rfl ?_)
          intro W6 hm6 hg6 hs6
          have HPP := Aside0.mk (HPE.out _ _ (put_end H3.out HV.out HG.out HNew.out (by have q := HLL.out; have q2 := h3'; simp at q ⊢; try omega) (by simp only [List.append_assoc, List.cons_append, List.nil_append]; exact hm6) hg6))
          clear hm6 hg6 hs6 p5
          go_wp2
          go_ret
          exact HPP.out
end Go.Proofs.YtmmfoeckggpgdaaGreatDoor
set_option linter.unusedSimpArgs false
set_option linter.unusedVariables false
namespace Go.Proofs.YtmmfoeckggpgdaaGreatDoor
open Go.RowKit Go.Lib Go.Maps Go.Proofs.YtmmfoeckggpgdaaGreatDoorW.PrintWords

/-- what an intake has -/
structure In where
  clk : Clk
  had : List (ByteArray × Row)
  taken : List Ev
  late : List Ev
  gone : List (ByteArray × Bool)
/-- where it lies -/
structure Lay where
  g : Nat
  cg : Nat
  cb : Nat
  cn : Nat
  sg : Nat
  sb : Nat
  sn : Nat
  tv : Value
  lv : Value
  mb : Nat
  mn : Nat
  lab : Nat → Nat
def boolV (x : Bool) : Value := .bool x
structure InAt (w : World) (base : Nat) (y : Lay) (x : In) : Prop where
  blk : w.heap[y.g]? = some (.cells #[.pointer (some ⟨y.cg, 0, none⟩), .pointer (some ⟨y.sg, 0, none⟩), y.tv, y.lv, .map (some y.mb)] 91 (0, 0))
  clk : ClkAt w y.cg y.cb y.cn x.clk
  had : SetAt w base y.sg y.sb y.sn x.had
  taken : EvAt w base y.tv x.taken
  late : EvAt w base y.lv x.late
  gone : TMap boolV Tryz.prog 9 w y.mb y.mn x.gone
  l0 : y.lab y.g = 0
  l1 : ∀ k, clkS y.cg y.cb k → y.lab k = 1
  l2 : ∀ k, setS y.sg y.sb x.had k → y.lab k = 2
  l3 : ∀ k, y.tv.ownBlock = some k → y.lab k = 3
  l4 : ∀ k, y.lv.ownBlock = some k → y.lab k = 4
  l5 : y.lab y.mb = 5
/-- nothing of it was touched -/
theorem InAt.fr {w W : World} {base : Nat} {y : Lay} {x : In} {S : Nat → Prop} (h : InAt w base y x) (hf : Fr S w W) (hs : ∀ k, y.lab k ≤ 5 → ¬ S k) : InAt W base y x :=
  ⟨hf.blk h.blk (hs _ (by rw [h.l0]; decide)), h.clk.fr hf (hs _ (by rw [h.l1 _ (.inl rfl)]; decide)) (hs _ (by rw [h.l1 _ (.inr rfl)]; decide)), h.had.fr hf (fun k hk => hs k (by rw [h.l2 k hk]; decide)),
   h.taken.fr hf (fun k hk => hs k (by rw [h.l3 k hk]; decide)), h.late.fr hf (fun k hk => hs k (by rw [h.l4 k hk]; decide)), h.gone.move (hf.block _ h.gone.lt (hs _ (by rw [h.l5]; decide))), h.l0, h.l1, h.l2, h.l3, h.l4, h.l5⟩
theorem InAt.below {w W : World} {base : Nat} {y : Lay} {x : In} (h : InAt w base y x) (hb : Below w.heap.size w W) : InAt W base y x := h.fr (Fr.of_below hb nob) (fun _ _ h => h)
theorem inMark_calls (base : Nat) (y : Lay) (x : In) (w : World) (h : InAt w base y x) : Calls Tryz.prog 45 #[.pointer (some ⟨y.g, 0, none⟩)] w fun e w' => e = .returned (.int .i64 x.clk.mark) ∧ w' = w := by
  obtain ⟨p0, p1, p2, p3, p4, ps⟩ := five h.blk
  have HC := Aside0.mk (clkMark_calls _ _ _ _ w h.clk)
  clear h
  go_enter Tryz.func45, Tryz.ntmps45
  go_wp2_with fail
  refine HC.out.mono ?_
  rintro e w1 ⟨rfl, rfl⟩
  go_wp2
  go_ret
  exact ⟨rfl, rfl⟩
theorem inTaken_calls (base : Nat) (y : Lay) (x : In) (w : World) (h : InAt w base y x) (hbig : x.taken.length ≤ 2097152) : Calls Tryz.prog 15 #[.pointer (some ⟨y.g, 0, none⟩)] w fun e W => ClonePost x.taken w e W := by
  obtain ⟨p0, p1, p2, p3, p4, ps⟩ := five h.blk
  have HC := Aside0.mk (eClone_calls base y.tv x.taken w h.taken hbig)
  clear h hbig
  go_enter Tryz.func15, Tryz.ntmps15
  go_wp2_with fail
  refine HC.out.mono ?_
  intro e W hW
  have HW := Aside0.mk hW
  clear hW
  obtain ⟨v', rfl, h2⟩ := HW.out
  clear h2
  go_wp2
  go_ret
  exact HW.out
/-- the clock was changed -/
theorem InAt.setClk {w W : World} {base : Nat} {y : Lay} {x : In} {c : Clk} {n : Nat} {S : Nat → Prop} (h : InAt w base y x) (hf : Fr S w W) (hs : ∀ k, S k → clkS y.cg y.cb k) (hc : ClkAt W y.cg y.cb n c) : InAt W base { y with cn := n } { x with clk := c } := by
  have hn : ∀ k, y.lab k ≠ 1 → ¬ S k := fun k hk hS => hk (h.l1 k (hs k hS))
  exact ⟨hf.blk h.blk (hn _ (by rw [h.l0]; decide)), hc, h.had.fr hf (fun k hk => hn k (by rw [h.l2 k hk]; decide)),
   h.taken.fr hf (fun k hk => hn k (by rw [h.l3 k hk]; decide)), h.late.fr hf (fun k hk => hn k (by rw [h.l4 k hk]; decide)), h.gone.move (hf.block _ h.gone.lt (hn _ (by rw [h.l5]; decide))), h.l0, h.l1, h.l2, h.l3, h.l4, h.l5⟩
theorem inTick_calls (base : Nat) (y : Lay) (x : In) (now : Int) (w : World) (h : InAt w base y x) : Calls Tryz.prog 82 #[.pointer (some ⟨y.g, 0, none⟩), .int .i64 now] w fun e w' => e = .returned (.int .i64 (tickC x.clk now).mark) ∧ InAt w' base y { x with clk := tickC x.clk now } ∧ Fr (fun k => k = y.cg) w w' := by
  obtain ⟨p0, p1, p2, p3, p4, ps⟩ := five h.blk
  have HC := Aside0.mk (tick_calls _ _ _ _ now w h.clk)
  have H := Aside0.mk h
  clear h
  go_enter Tryz.func82, Tryz.ntmps82
  go_wp2_with fail
  refine HC.out.mono ?_
  rintro e w1 ⟨rfl, hc, hf⟩
  have HR := Aside0.mk (And.intro (H.out.setClk hf (fun k hk => .inl hk) hc) hf)
  clear hc hf
  go_wp2
  go_ret
  exact ⟨rfl, HR.out.1, HR.out.2⟩
theorem EvAt.head {w : World} {base n : Nat} {A : Option Addr} {c : Nat} {l : List Ev} (h : EvAt w base (.slice A l.length c) l) (hn : n ≤ l.length) : EvAt w base (.slice A n c) (l.take n) := by
  have hl : (l.take n).length = n := by rw [List.length_take]; omega
  rcases h.2 with ⟨h', h0⟩ | ⟨g', c', cur, h', hb, hg, hn', hm, hz, ht⟩
  · injection h' with h' _ h''
    subst h' h''
    exact ⟨evsC_len _, .inl ⟨by rw [show n = 0 by omega], by rw [hl]; omega⟩⟩
  · injection h' with h' _ h''
    subst h' h''
    refine ⟨evsC_len _, .inr ⟨g', c, cur, by rw [hl], hb, hg, by omega, hm, hz, ?_⟩⟩
    have h8 := evsC_take (l.take n) (l.drop n)
    rw [List.take_append_drop, hl] at h8
    rw [hl, ← h8, ← ht, List.take_take]
    congr 1; omega
theorem posW_le (p : Ev → Bool) (l : List Ev) : posW p l ≤ l.length := List.Sublist.length_le (List.takeWhile_sublist p)
theorem inSettled_calls (base : Nat) (y : Lay) (x : In) (w : World) (h : InAt w base y x) (hp : Parted (uptoB x.clk.mark) x.taken) (hbig : x.taken.length ≤ 2097152) : Calls Tryz.prog 60 #[.pointer (some ⟨y.g, 0, none⟩)] w fun e W => ClonePost (x.taken.take (posW (uptoB x.clk.mark) x.taken)) w e W := by
  have HC := Aside0.mk (clkMark_calls _ _ _ _ w h.clk)
  obtain ⟨n, hn⟩ : ∃ n, n = posW (uptoB x.clk.mark) x.taken := ⟨_, rfl⟩
  have hnl : n ≤ x.taken.length := by rw [hn]; exact posW_le _ _
  have hbs := bsearchM_calls x.clk.mark base y.tv x.taken w h.taken hp (by omega)
  rw [← hn] at hbs ⊢
  have HBs := Aside0.mk hbs
  have H := Aside0.mk h
  obtain ⟨A, c, hv, hnc, hcm, _⟩ := h.taken.form
  have hcl : ∀ W, Below w.heap.size w W → Calls Tryz.prog 46 #[.slice A n c] W fun e W' => ClonePost (x.taken.take n) W e W' := fun W hW => eClone_calls base _ _ W (EvAt.head (by have h9 := h.taken.below hW; rw [hv] at h9; exact h9) hnl) (by rw [List.length_take]; omega)
  have HCl := Aside0.mk hcl
  have HPost : Aside0 (∀ W e W', Below w.heap.size w W → ClonePost (x.taken.take n) W e W' → ClonePost (x.taken.take n) w e W') := ⟨fun W e W' hW ⟨v', h1, h2, h3⟩ => ⟨v', h1, own_weaken h2 hW.size, hW.trans (h3.mono hW.size)⟩⟩
  have hc63 : c ≤ 9223372036854775807 := by unfold maxLen at hcm; omega
  have hq0 : (0 : Int) ≤ (n : Int) := by omega
  have hq1 : (n : Int) ≤ (c : Int) := by omega
  have hq2 : (n : Int).toNat = n := Int.toNat_natCast n
  have hq3 : n ≤ c := by omega
  obtain ⟨p0, p1, p2, p3, p4, ps⟩ := five h.blk
  rw [hv] at p2
  clear h hbs hp hcl hn hbig
  go_enter Tryz.func60, Tryz.ntmps60
  go_wp2_with fail
  refine HC.out.mono ?_
  rintro e w1 ⟨rfl, rfl⟩
  go_wp2_with fail
  rw [← hv]
  refine HBs.out.mono ?_
  rintro e w2 ⟨rfl, hb2⟩
  have HB2 := Aside0.mk hb2
  obtain ⟨q0, q1, q2, q3, q4, qs⟩ := five (H.out.below hb2).blk
  rw [hv] at q2
  clear hb2 p0 p1 p2 p3 p4 ps
  go_wp2_with fail
  refine (HCl.out _ HB2.out).mono ?_
  intro e W hW
  have HW := Aside0.mk (HPost.out _ _ _ HB2.out hW)
  clear hW
  obtain ⟨v', rfl, h2⟩ := HW.out
  clear h2
  go_wp2
  go_ret
  exact HW.out
end Go.Proofs.YtmmfoeckggpgdaaGreatDoor
set_option linter.unusedSimpArgs false
set_option linter.unusedVariables false
namespace Go.Proofs.YtmmfoeckggpgdaaGreatDoor
open Go.RowKit Go.Lib Go.Maps Go.Proofs.YtmmfoeckggpgdaaGreatDoorW.PrintWords

def emptyIn (slack idle : Int) : In := ⟨newC slack idle, [], [], [], []⟩
def NewPost (base : Nat) (slack idle : Int) (w : World) (e : Ending) (W : World) : Prop := ∃ y, e = .returned (.pointer (some ⟨y.g, 0, none⟩)) ∧ InAt W base y (emptyIn slack idle) ∧ y.cn = 0 ∧ y.sn = 0 ∧ y.mn = 0 ∧ (∀ k, y.lab k ≤ 5 → w.heap.size ≤ k) ∧ Below w.heap.size w W
theorem inNew_calls (base : Nat) (slack idle : Int) (w : World) (hbase : base ≤ w.heap.size) : Calls Tryz.prog 34 #[.int .i64 slack, .int .i64 idle] w fun e W => NewPost base slack idle w e W := by
  have hmm := @run_makeMap Tryz.prog
  have HBs := Aside0.mk hbase
  clear hbase
  go_enter Tryz.func34, Tryz.ntmps34
  go_wp2_with fail
  refine (clkNew_calls slack idle w).mono ?_
  rintro e w1 ⟨rfl, hc1, hb1⟩
  have HC1 := Aside0.mk hc1
  have HB1 := Aside0.mk hb1
  clear hc1 hb1
  go_wp2_with fail
  refine (setNew_calls base w1 (Nat.le_trans HBs.out HB1.out.size)).mono ?_
  rintro e w2 ⟨rfl, hs2, hb2⟩
  have HS2 := Aside0.mk hs2
  have HC2 := Aside0.mk (HC1.out.below hb2)
  have HB2 := Aside0.mk hb2
  clear hs2 hb2
  have s1 := blk_lt HC1.out.blk
  have s2 := blk_lt HS2.out.blk
  have s3 := HB1.out.size
  have s4 := HB2.out.size
  have HN : Aside0 (∀ o, NewPost base slack idle w (.returned (.pointer (some ⟨w2.heap.size + 1, 0, none⟩))) ((w2.alloc (.map #[] 0)).alloc o) ∨ o ≠ .cells #[.pointer (some ⟨w.heap.size + 1, 0, none⟩), .pointer (some ⟨w1.heap.size + 1, 0, none⟩), .slice none 0 0, .slice none 0 0, .map (some w2.heap.size)] 91 (0, 0)) := ⟨fun o => by
    by_cases ho : o = .cells #[.pointer (some ⟨w.heap.size + 1, 0, none⟩), .pointer (some ⟨w1.heap.size + 1, 0, none⟩), .slice none 0 0, .slice none 0 0, .map (some w2.heap.size)] 91 (0, 0)
    · refine .inl ?_
      have hbb : Below w2.heap.size w2 ((w2.alloc (.map #[] 0)).alloc o) := below_alloc (below_alloc (Below.refl _ _) _) _
      refine ⟨⟨w2.heap.size + 1, w.heap.size + 1, w.heap.size, 0, w1.heap.size + 1, w1.heap.size, 0, .slice none 0 0, .slice none 0 0, w2.heap.size, 0, fun k => if k = w2.heap.size + 1 then 0 else if k = w2.heap.size then 5 else if k = w1.heap.size ∨ k = w1.heap.size + 1 then 2 else if k = w.heap.size ∨ k = w.heap.size + 1 then 1 else 6⟩, rfl, ⟨by subst ho; exact new_2of2 w2 _ _, HC2.out.below hbb, HS2.out.below hbb, own_nil _ base _ _, own_nil _ base _ _, (TMap.made boolV Tryz.prog 9 w2).move ((below_alloc (Below.refl _ (w2.alloc (.map #[] 0))) _).block _ (by simp)), by simp, ?_, ?_, by simp [Value.ownBlock], by simp [Value.ownBlock], by simp⟩, rfl, rfl, rfl, ?_, HB1.out.trans ((HB2.out.trans (hbb.mono s4)).mono s3)⟩
      · rintro k (rfl | rfl)
        · simp only; rw [if_neg (by omega), if_neg (by omega), if_neg (by omega), if_pos (by first | (simp; done) | omega)]
        · simp only; rw [if_neg (by omega), if_neg (by omega), if_neg (by omega), if_pos (by first | (simp; done) | omega)]
      · rintro k (rfl | rfl | ⟨p, hp, _⟩)
        · simp only; rw [if_neg (by omega), if_neg (by omega), if_pos (by first | (simp; done) | omega)]
        · simp only; rw [if_neg (by omega), if_neg (by omega), if_pos (by first | (simp; done) | omega)]
        · cases hp
      · intro k hk
        simp only at hk
        by_cases h : w.heap.size ≤ k
        · exact h
        · exfalso
          rw [if_neg (by omega), if_neg (by omega), if_neg (by omega), if_neg (by omega)] at hk
          exact absurd hk (by decide)
    · exact .inr ho⟩
  clear s1 s2 s3 s4
  go_wp2
  go_ret
  rcases HN.out _ with h | h
  · exact h
  · exact absurd rfl h
end Go.Proofs.YtmmfoeckggpgdaaGreatDoor
set_option linter.unusedSimpArgs false
set_option linter.unusedVariables false
namespace Go.Proofs.YtmmfoeckggpgdaaGreatDoor
open Go.RowKit Go.Lib Go.Maps Go.Proofs.YtmmfoeckggpgdaaGreatDoorW.PrintWords

/-- whatever is new belongs to a part -/
def Lay.more (y : Lay) (n i : Nat) : Nat → Nat := fun k => if k < n then y.lab k else i
theorem Lay.more_lt {y : Lay} {n i k : Nat} (h : k < n) : y.more n i k = y.lab k := if_pos h
theorem Lay.more_ge {y : Lay} {n i k : Nat} (h : n ≤ k) : y.more n i k = i := if_neg (by omega)
/-- all that an intake has lies in memory -/
theorem InAt.lts {w : World} {base : Nat} {y : Lay} {x : In} (h : InAt w base y x) : y.g < w.heap.size ∧ (∀ k, clkS y.cg y.cb k → k < w.heap.size) ∧ (∀ k, setS y.sg y.sb x.had k → k < w.heap.size) ∧ (∀ k, y.tv.ownBlock = some k → k < w.heap.size) ∧ (∀ k, y.lv.ownBlock = some k → k < w.heap.size) ∧ y.mb < w.heap.size := by
  refine ⟨blk_lt h.blk, ?_, h.had.lt, fun k hk => own_lt h.taken k hk, fun k hk => own_lt h.late k hk, h.gone.lt⟩
  rintro k (rfl | rfl)
  · exact blk_lt h.clk.blk
  · exact h.clk.map.lt
/-- a step of an intake: where it lies behind it, what it has -/
structure InStep (base : Nat) (w : World) (y : Lay) (W : World) (y' : Lay) (x' : In) : Prop where
  at_ : InAt W base y' x'
  fr : Fr (fun k => y.lab k ≤ 5) w W
  lab : ∀ k, y'.lab k ≤ 5 → y.lab k ≤ 5 ∨ w.heap.size ≤ k
  g : y'.g = y.g
  cn : y'.cn ≤ y.cn + 1
  sn : y'.sn ≤ y.sn + 1
  mn : y'.mn ≤ y.mn + 1
theorem InAt.setHad {w W : World} {base n : Nat} {y : Lay} {x : In} {L : List (ByteArray × Row)} (h : InAt w base y x) (hf : Fr (setS y.sg y.sb x.had) w W) (hs : SetAt W base y.sg y.sb n L) (hk : ∀ k, setS y.sg y.sb L k → setS y.sg y.sb x.had k ∨ w.heap.size ≤ k) :
    InAt W base { y with sn := n, lab := y.more w.heap.size 2 } { x with had := L } := by
  obtain ⟨a0, a1, a2, a3, a4, a5⟩ := h.lts
  have hn : ∀ k, y.lab k ≠ 2 → ¬ setS y.sg y.sb x.had k := fun k hk hS => hk (h.l2 k hS)
  refine ⟨hf.blk h.blk (hn _ (by rw [h.l0]; decide)), h.clk.fr hf (hn _ (by rw [h.l1 _ (.inl rfl)]; decide)) (hn _ (by rw [h.l1 _ (.inr rfl)]; decide)), hs, h.taken.fr hf (fun k hk => hn k (by rw [h.l3 k hk]; decide)), h.late.fr hf (fun k hk => hn k (by rw [h.l4 k hk]; decide)), h.gone.move (hf.block _ h.gone.lt (hn _ (by rw [h.l5]; decide))), ?_, ?_, ?_, ?_, ?_, ?_⟩
  · exact (Lay.more_lt a0).trans h.l0
  · intro k hk; exact (Lay.more_lt (a1 k hk)).trans (h.l1 k hk)
  · intro k hk'
    rcases hk k hk' with h2 | h2
    · exact (Lay.more_lt (a2 k h2)).trans (h.l2 k h2)
    · exact Lay.more_ge h2
  · intro k hk; exact (Lay.more_lt (a3 k hk)).trans (h.l3 k hk)
  · intro k hk; exact (Lay.more_lt (a4 k hk)).trans (h.l4 k hk)
  · exact (Lay.more_lt a5).trans h.l5
theorem InAt.setTaken {w W : World} {base : Nat} {y : Lay} {x : In} {v : Value} {l : List Ev} (h : InAt w base y x) (hf : Fr (fun k => k = y.g ∨ y.tv.ownBlock = some k) w W)
    (hb : W.heap[y.g]? = some (.cells #[.pointer (some ⟨y.cg, 0, none⟩), .pointer (some ⟨y.sg, 0, none⟩), v, y.lv, .map (some y.mb)] 91 (0, 0))) (hv : EvAt W base v l) (hl : v.ownBlock = y.tv.ownBlock ∨ ∃ k, v.ownBlock = some k ∧ w.heap.size ≤ k) :
    InAt W base { y with tv := v, lab := y.more w.heap.size 3 } { x with taken := l } := by
  obtain ⟨a0, a1, a2, a3, a4, a5⟩ := h.lts
  have hn : ∀ k, y.lab k ≠ 3 → y.lab k ≠ 0 → ¬ (k = y.g ∨ y.tv.ownBlock = some k) := by
    rintro k h3 h0 (rfl | hS)
    · exact h0 h.l0
    · exact h3 (h.l3 k hS)
  refine ⟨hb, h.clk.fr hf (hn _ (by rw [h.l1 _ (.inl rfl)]; decide) (by rw [h.l1 _ (.inl rfl)]; decide)) (hn _ (by rw [h.l1 _ (.inr rfl)]; decide) (by rw [h.l1 _ (.inr rfl)]; decide)), h.had.fr hf (fun k hk => hn k (by rw [h.l2 k hk]; decide) (by rw [h.l2 k hk]; decide)), hv, h.late.fr hf (fun k hk => hn k (by rw [h.l4 k hk]; decide) (by rw [h.l4 k hk]; decide)), h.gone.move (hf.block _ h.gone.lt (hn _ (by rw [h.l5]; decide) (by rw [h.l5]; decide))), ?_, ?_, ?_, ?_, ?_, ?_⟩
  · exact (Lay.more_lt a0).trans h.l0
  · intro k hk; exact (Lay.more_lt (a1 k hk)).trans (h.l1 k hk)
  · intro k hk; exact (Lay.more_lt (a2 k hk)).trans (h.l2 k hk)
  · intro k hk'
    simp only at hk'
    rcases hl with e | ⟨k', e, hk⟩
    · rw [e] at hk'; exact (Lay.more_lt (a3 k hk')).trans (h.l3 k hk')
    · rw [e] at hk'; obtain rfl := Option.some.inj hk'; exact Lay.more_ge hk
  · intro k hk; exact (Lay.more_lt (a4 k hk)).trans (h.l4 k hk)
  · exact (Lay.more_lt a5).trans h.l5
theorem InAt.setLate {w W : World} {base : Nat} {y : Lay} {x : In} {v : Value} {l : List Ev} (h : InAt w base y x) (hf : Fr (fun k => k = y.g ∨ y.lv.ownBlock = some k) w W)
    (hb : W.heap[y.g]? = some (.cells #[.pointer (some ⟨y.cg, 0, none⟩), .pointer (some ⟨y.sg, 0, none⟩), y.tv, v, .map (some y.mb)] 91 (0, 0))) (hv : EvAt W base v l) (hl : v.ownBlock = y.lv.ownBlock ∨ ∃ k, v.ownBlock = some k ∧ w.heap.size ≤ k) :
    InAt W base { y with lv := v, lab := y.more w.heap.size 4 } { x with late := l } := by
  obtain ⟨a0, a1, a2, a3, a4, a5⟩ := h.lts
  have hn : ∀ k, y.lab k ≠ 4 → y.lab k ≠ 0 → ¬ (k = y.g ∨ y.lv.ownBlock = some k) := by
    rintro k h3 h0 (rfl | hS)
    · exact h0 h.l0
    · exact h3 (h.l4 k hS)
  refine ⟨hb, h.clk.fr hf (hn _ (by rw [h.l1 _ (.inl rfl)]; decide) (by rw [h.l1 _ (.inl rfl)]; decide)) (hn _ (by rw [h.l1 _ (.inr rfl)]; decide) (by rw [h.l1 _ (.inr rfl)]; decide)), h.had.fr hf (fun k hk => hn k (by rw [h.l2 k hk]; decide) (by rw [h.l2 k hk]; decide)), h.taken.fr hf (fun k hk => hn k (by rw [h.l3 k hk]; decide) (by rw [h.l3 k hk]; decide)), hv, h.gone.move (hf.block _ h.gone.lt (hn _ (by rw [h.l5]; decide) (by rw [h.l5]; decide))), ?_, ?_, ?_, ?_, ?_, ?_⟩
  · exact (Lay.more_lt a0).trans h.l0
  · intro k hk; exact (Lay.more_lt (a1 k hk)).trans (h.l1 k hk)
  · intro k hk; exact (Lay.more_lt (a2 k hk)).trans (h.l2 k hk)
  · intro k hk; exact (Lay.more_lt (a3 k hk)).trans (h.l3 k hk)
  · intro k hk'
    simp only at hk'
    rcases hl with e | ⟨k', e, hk⟩
    · rw [e] at hk'; exact (Lay.more_lt (a4 k hk')).trans (h.l4 k hk')
    · rw [e] at hk'; obtain rfl := Option.some.inj hk'; exact Lay.more_ge hk
  · exact (Lay.more_lt a5).trans h.l5
theorem InAt.setGone {w W : World} {base n : Nat} {y : Lay} {x : In} {m : List (ByteArray × Bool)} (h : InAt w base y x) (hf : Fr (fun k => k = y.mb) w W) (hm : TMap boolV Tryz.prog 9 W y.mb n m) :
    InAt W base { y with mn := n } { x with gone := m } := by
  have hn : ∀ k, y.lab k ≠ 5 → ¬ (k = y.mb) := fun k hk e => hk (by rw [e]; exact h.l5)
  exact ⟨hf.blk h.blk (hn _ (by rw [h.l0]; decide)), h.clk.fr hf (hn _ (by rw [h.l1 _ (.inl rfl)]; decide)) (hn _ (by rw [h.l1 _ (.inr rfl)]; decide)), h.had.fr hf (fun k hk => hn k (by rw [h.l2 k hk]; decide)), h.taken.fr hf (fun k hk => hn k (by rw [h.l3 k hk]; decide)), h.late.fr hf (fun k hk => hn k (by rw [h.l4 k hk]; decide)), hm, h.l0, h.l1, h.l2, h.l3, h.l4, h.l5⟩
theorem InAt.setBoth {w W : World} {base : Nat} {y : Lay} {x : In} {v v2 : Value} {l l2 : List Ev} (h : InAt w base y x) (hf : Fr (fun k => k = y.g ∨ y.tv.ownBlock = some k ∨ y.lv.ownBlock = some k) w W)
    (hb : W.heap[y.g]? = some (.cells #[.pointer (some ⟨y.cg, 0, none⟩), .pointer (some ⟨y.sg, 0, none⟩), v, v2, .map (some y.mb)] 91 (0, 0))) (hv : EvAt W base v l) (hv2 : EvAt W base v2 l2) (hl : v.ownBlock = y.tv.ownBlock) (hl2 : v2.ownBlock = y.lv.ownBlock) :
    InAt W base { y with tv := v, lv := v2 } { x with taken := l, late := l2 } := by
  have hn : ∀ k, y.lab k ≠ 3 → y.lab k ≠ 4 → y.lab k ≠ 0 → ¬ (k = y.g ∨ y.tv.ownBlock = some k ∨ y.lv.ownBlock = some k) := by
    rintro k h3 h4 h0 (rfl | hS | hS)
    · exact h0 h.l0
    · exact h3 (h.l3 k hS)
    · exact h4 (h.l4 k hS)
  exact ⟨hb, h.clk.fr hf (hn _ (by rw [h.l1 _ (.inl rfl)]; decide) (by rw [h.l1 _ (.inl rfl)]; decide) (by rw [h.l1 _ (.inl rfl)]; decide)) (hn _ (by rw [h.l1 _ (.inr rfl)]; decide) (by rw [h.l1 _ (.inr rfl)]; decide) (by rw [h.l1 _ (.inr rfl)]; decide)), h.had.fr hf (fun k hk => hn k (by rw [h.l2 k hk]; decide) (by rw [h.l2 k hk]; decide) (by rw [h.l2 k hk]; decide)), hv, hv2, h.gone.move (hf.block _ h.gone.lt (hn _ (by rw [h.l5]; decide) (by rw [h.l5]; decide) (by rw [h.l5]; decide))),
    h.l0, h.l1, h.l2, fun k hk => h.l3 k (by rw [← hl]; exact hk), fun k hk => h.l4 k (by rw [← hl2]; exact hk), h.l5⟩
theorem Lay.more_le {y : Lay} {n i : Nat} : ∀ k, y.more n i k ≤ 5 → y.lab k ≤ 5 ∨ n ≤ k := fun k hk => by
  unfold Lay.more at hk
  by_cases h : k < n
  · rw [if_pos h] at hk; exact .inl hk
  · exact .inr (by omega)
theorem InStep.fr_trans {base : Nat} {w W W2 : World} {y y' : Lay} {x' : In} {S : Nat → Prop} (h : InStep base w y W y' x') (hf : Fr S W W2) (hs : ∀ k, S k → y'.lab k ≤ 5 ∨ W.heap.size ≤ k) : Fr (fun k => y.lab k ≤ 5) w W2 :=
  h.fr.then_ hf (fun k hk => (hs k hk).elim (h.lab k) (fun h2 => .inr (Nat.le_trans h.fr.size h2)))
end Go.Proofs.YtmmfoeckggpgdaaGreatDoor
set_option linter.unusedSimpArgs false
set_option linter.unusedVariables false
namespace Go.Proofs.YtmmfoeckggpgdaaGreatDoor

theorem bl_trans {x y z : List UInt8} (h1 : Op.bytesLess x y = true) (h2 : Op.bytesLess y z = true) : Op.bytesLess x z = true := by
  have e := Go.Proofs.bytesLess_eq
  simp only [e, decide_eq_true_iff] at h1 h2 ⊢
  exact List.lt_trans h1 h2
theorem bl_eq {x y : List UInt8} (h1 : Op.bytesLess x y = false) (h2 : Op.bytesLess y x = false) : x = y := by
  have h := PC.less_turned x y
  rw [h1, h2] at h
  simpa using h
theorem bl_irr (x : List UInt8) : Op.bytesLess x x = false := by
  have h := PC.less_turned x x
  cases h1 : Op.bytesLess x x
  · rfl
  · rw [h1] at h; simp at h
theorem bl_asym {x y : List UInt8} (h : Op.bytesLess x y = true) : Op.bytesLess y x = false := by
  cases h1 : Op.bytesLess y x
  · rfl
  · have := bl_trans h h1; rw [bl_irr] at this; cases this
/-- a comes first -/
def before (a b : Ev) : Prop := a.at_ < b.at_ ∨ (a.at_ = b.at_ ∧ (Op.bytesLess a.source.toList b.source.toList = true ∨ (a.source.toList = b.source.toList ∧ a.number < b.number)))
theorem cmpB_before (a b : Ev) : cmpB a b < 0 ↔ before a b := by
  unfold cmpB cmpI cmpT before
  by_cases h1 : a.at_ < b.at_
  · simp [h1]
  · by_cases h2 : a.at_ > b.at_
    · have h3 : ¬ a.at_ = b.at_ := by omega
      simp [h1, h2, h3]
    · have h3 : a.at_ = b.at_ := by omega
      cases h4 : Op.bytesLess a.source.toList b.source.toList
      · cases h5 : Op.bytesLess b.source.toList a.source.toList
        · have h6 := bl_eq h4 h5
          by_cases h7 : a.number < b.number
          · simp [h3, h6, h7, bl_irr]
          · by_cases h8 : a.number > b.number
            · simp [h3, h6, h7, h8, bl_irr]
            · simp [h3, h6, h7, h8, bl_irr]
        · have h6 : ¬ a.source.toList = b.source.toList := fun h => by rw [h, bl_irr] at h5; cases h5
          simp [h3, h4, h5, h6]
      · simp [h3, h4]
theorem before_trans {a b c : Ev} (h1 : before a b) (h2 : before b c) : before a c := by
  unfold before at *
  rcases h1 with h1 | ⟨h1, h1'⟩
  · rcases h2 with h2 | ⟨h2, _⟩
    · exact .inl (by omega)
    · exact .inl (by omega)
  · rcases h2 with h2 | ⟨h2, h2'⟩
    · exact .inl (by omega)
    · refine .inr ⟨by omega, ?_⟩
      rcases h1' with h1' | ⟨h1', h1''⟩
      · rcases h2' with h2' | ⟨h2', _⟩
        · exact .inl (bl_trans h1' h2')
        · exact .inl (by rw [← h2']; exact h1')
      · rcases h2' with h2' | ⟨h2', h2''⟩
        · exact .inl (by rw [h1']; exact h2')
        · exact .inr ⟨h1'.trans h2', by omega⟩
/-- in the order, and no two alike -/
def Ordered (l : List Ev) : Prop := l.Pairwise before
theorem Ordered.parted {l : List Ev} (h : Ordered l) (e : Ev) : Parted (lessE e) l := fun i j hi hj hij hp => by
  unfold lessE at *
  rw [decide_eq_true_iff, cmpB_before] at *
  rcases Nat.lt_or_eq_of_le hij with h1 | rfl
  · exact before_trans (List.pairwise_iff_getElem.1 h i j hi hj h1) hp
  · exact hp
theorem Ordered.upto {l : List Ev} (h : Ordered l) (mark : Int) : Parted (uptoB mark) l := fun i j hi hj hij hp => by
  unfold uptoB at *
  rw [decide_eq_true_iff] at *
  rcases Nat.lt_or_eq_of_le hij with h1 | rfl
  · have h2 := List.pairwise_iff_getElem.1 h i j hi hj h1
    unfold before at h2
    rcases h2 with h2 | ⟨h2, _⟩ <;> omega
  · exact hp
theorem before_tri {x e : Ev} (h : ¬ before x e) (hs : sameB x e = false) : before e x := by
  unfold before at *
  unfold sameB at hs
  have a1 : ¬ x.at_ < e.at_ := fun h1 => h (.inl h1)
  by_cases a2 : e.at_ < x.at_
  · exact .inl a2
  · have a3 : e.at_ = x.at_ := by omega
    refine .inr ⟨a3, ?_⟩
    cases h4 : Op.bytesLess e.source.toList x.source.toList
    · cases h5 : Op.bytesLess x.source.toList e.source.toList
      · have h6 := bl_eq h4 h5
        have h7 : ¬ x.number < e.number := fun h7 => h (.inr ⟨a3.symm, .inr ⟨h6.symm, h7⟩⟩)
        have h8 : ¬ x.number = e.number := fun h8 => by rw [h6, h8] at hs; simp at hs
        exact .inr ⟨h6, by omega⟩
      · exact absurd (.inr ⟨a3.symm, .inl h5⟩) h
    · exact .inl rfl
theorem take_posW (p : Ev → Bool) : ∀ l : List Ev, (∀ x ∈ l.take (posW p l), p x = true) ∧ (∀ h : posW p l < l.length, p (l[posW p l]) = false)
  | [] => ⟨by simp, fun h => by simp at h⟩
  | y :: l => by
    have ih := take_posW p l
    cases hy : p y
    · have e : posW p (y :: l) = 0 := by simp [posW, List.takeWhile_cons, hy]
      refine ⟨by rw [e]; simp, fun h => ?_⟩
      simp only [e, List.getElem_cons_zero]; exact hy
    · have e : posW p (y :: l) = posW p l + 1 := by simp [posW, List.takeWhile_cons, hy]
      refine ⟨?_, fun h => ?_⟩
      · rw [e, List.take_succ_cons]
        intro x hx
        rcases List.mem_cons.1 hx with rfl | hx
        · exact hy
        · exact ih.1 x hx
      · simp only [e, List.getElem_cons_succ]
        exact ih.2 (by rw [e] at h; simpa using h)
theorem Ordered.insert {l : List Ev} (h : Ordered l) (e : Ev) (hne : ∀ x ∈ l, sameB x e = false) : Ordered (l.take (posW (lessE e) l) ++ e :: l.drop (posW (lessE e) l)) := by
  have ht := take_posW (lessE e) l
  have hp := h.parted e
  generalize posW (lessE e) l = n at *
  have hl : ∀ x ∈ l.take n, before x e := fun x hx => by
    have := ht.1 x hx
    unfold lessE at this
    rw [decide_eq_true_iff, cmpB_before] at this
    exact this
  have hr : ∀ x ∈ l.drop n, before e x := fun x hx => by
    obtain ⟨k, hk, rfl⟩ := List.mem_iff_getElem.1 hx
    rw [List.getElem_drop]
    have hk' : n + k < l.length := by rw [List.length_drop] at hk; omega
    refine before_tri (fun hb => ?_) (hne _ (List.getElem_mem hk'))
    have h1 : lessE e l[n + k] = true := by unfold lessE; rw [decide_eq_true_iff, cmpB_before]; exact hb
    have h2 := hp n (n + k) (by omega) hk' (by omega) h1
    rw [ht.2 (by omega)] at h2
    cases h2
  have hpw : Ordered (l.take n ++ l.drop n) := by rw [List.take_append_drop]; exact h
  unfold Ordered at *
  rw [List.pairwise_append] at hpw ⊢
  refine ⟨hpw.1, List.pairwise_cons.2 ⟨hr, hpw.2.1⟩, fun a ha b hb => ?_⟩
  rcases List.mem_cons.1 hb with rfl | hb
  · exact hl a ha
  · exact hpw.2.2 a ha b hb
theorem Ordered.filter {l : List Ev} (h : Ordered l) (p : Ev → Bool) : Ordered (l.filter p) := List.Pairwise.filter p h
end Go.Proofs.YtmmfoeckggpgdaaGreatDoor
set_option linter.unusedSimpArgs false
set_option linter.unusedVariables false
namespace Go.Proofs.YtmmfoeckggpgdaaGreatDoor

/-- wrong (3), a double (1), else 0 -/
def lookB (x : In) (e : Ev) : Int := if (mayB e && !((getL x.gone e.person).getD false && (e.kind != 14))) = true then (if hasS x.had e.source e.number = true then 1 else 0) else 3
/-- an event is put in -/
def putE (l : List Ev) (e : Ev) : List Ev := l.take (posW (lessE e) l) ++ e :: l.drop (posW (lessE e) l)
def keepE (l : List Ev) (s : ByteArray) : List Ev := l.filter (fun x => !goneB s x)
def takeP (x : In) (e : Ev) (had' : List (ByteArray × Row)) : In :=
  if e.kind = 14 then { x with had := had', taken := keepE (putE x.taken e) e.person, late := keepE x.late e.person, gone := putL x.gone e.person true }
  else { x with had := had', taken := putE x.taken e }
def hadMore (L L' : List (ByteArray × Row)) (e : Ev) : Prop := ∀ s n, hasS L' s n = (decide (s = e.source ∧ n = e.number) || hasS L s n)
def lateP (l : List Ev) (e : Ev) : List Ev := if l.any (sameB e) = true then l else l ++ [e]
/-- v: the verdict, x': what it has then -/
def Offered (x : In) (e : Ev) (now : Int) (v : Int) (x' : In) : Prop :=
  (lookB x e ≠ 0 ∧ v = lookB x e ∧ x' = { x with clk := tickC x.clk now }) ∨
  (lookB x e = 0 ∧ hearsB (tickC x.clk now) e.source e.at_ now = true ∧ v = 0 ∧ ∃ had', hadMore x.had had' e ∧ x' = takeP { x with clk := hearC (tickC x.clk now) e.source e.at_ now } e had') ∨
  (lookB x e = 0 ∧ hearsB (tickC x.clk now) e.source e.at_ now = false ∧ v = 2 ∧ x' = { x with clk := hearC (tickC x.clk now) e.source e.at_ now, late := lateP x.late e })
theorem ba_ext {a b : ByteArray} (h : a.toList = b.toList) : a = b := by
  rw [ByteArray.toList_eq, ByteArray.toList_eq] at h
  cases a; cases b
  simpa using h
theorem sameB_iff {a b : Ev} : sameB a b = true ↔ a.source = b.source ∧ a.number = b.number := by
  unfold sameB
  rw [Bool.and_eq_true, beq_iff_eq, beq_iff_eq]
  exact ⟨fun ⟨h1, h2⟩ => ⟨ba_ext h1, h2⟩, fun ⟨h1, h2⟩ => ⟨by rw [h1], h2⟩⟩
theorem mem_putE {l : List Ev} {e a : Ev} : a ∈ putE l e ↔ a = e ∨ a ∈ l := by
  unfold putE
  rw [List.mem_append, List.mem_cons]
  constructor
  · rintro (h | h | h)
    · exact .inr (List.mem_of_mem_take h)
    · exact .inl h
    · exact .inr (List.mem_of_mem_drop h)
  · rintro (h | h)
    · exact .inr (.inl h)
    · rw [← List.take_append_drop (posW (lessE e) l) l, List.mem_append] at h
      exact h.imp id .inr
theorem putE_len (l : List Ev) (e : Ev) : (putE l e).length = l.length + 1 := by
  unfold putE
  rw [List.length_append, List.length_cons, List.length_take, List.length_drop]
  have := posW_le (lessE e) l
  omega
/-- what holds of an intake that events were offered to -/
structure InOk (x : In) (k : Nat) : Prop where
  ord : Ordered x.taken
  had : ∀ e ∈ x.taken, hasS x.had e.source e.number = true
  tlen : x.taken.length ≤ k
  llen : x.late.length ≤ k
theorem InOk.clk {x : In} {k : Nat} (h : InOk x k) (c : Clk) : InOk { x with clk := c } k := ⟨h.ord, h.had, h.tlen, h.llen⟩
theorem InOk.mono {x : In} {k k' : Nat} (h : InOk x k) (hk : k ≤ k') : InOk x k' := ⟨h.ord, h.had, Nat.le_trans h.tlen hk, Nat.le_trans h.llen hk⟩
theorem lookB_zero {x : In} {e : Ev} (h : lookB x e = 0) : mayB e = true ∧ ((getL x.gone e.person).getD false && (e.kind != 14)) = false ∧ hasS x.had e.source e.number = false := by
  unfold lookB at h
  split at h
  · rename_i h1
    simp only [Bool.and_eq_true, Bool.not_eq_true'] at h1
    split at h
    · cases h
    · rename_i h2
      exact ⟨h1.1, h1.2, by simpa using h2⟩
  · cases h
theorem lookB_val (x : In) (e : Ev) : lookB x e = 0 ∨ lookB x e = 1 ∨ lookB x e = 3 := by
  unfold lookB; split
  · split
    · exact .inr (.inl rfl)
    · exact .inl rfl
  · exact .inr (.inr rfl)
theorem takeP_ok {x : In} {e : Ev} {k : Nat} {had' : List (ByteArray × Row)} (h : InOk x k) (hno : hasS x.had e.source e.number = false) (hm : hadMore x.had had' e) : InOk (takeP x e had') (k + 1) := by
  have hne : ∀ a ∈ x.taken, sameB a e = false := fun a ha => by
    cases hs : sameB a e
    · rfl
    · obtain ⟨h1, h2⟩ := sameB_iff.1 hs
      have h3 := h.had a ha
      rw [h1, h2, hno] at h3; cases h3
  have ho : Ordered (putE x.taken e) := h.ord.insert e hne
  have hh : ∀ a ∈ putE x.taken e, hasS had' a.source a.number = true := fun a ha => by
    rw [hm]
    rcases mem_putE.1 ha with rfl | ha
    · simp
    · rw [h.had a ha]; simp
  have hl : (putE x.taken e).length ≤ k + 1 := by rw [putE_len]; have := h.tlen; omega
  have hll := h.llen
  unfold takeP
  by_cases hk : e.kind = 14
  · rw [if_pos hk]
    refine ⟨ho.filter _, fun a ha => hh a (List.mem_filter.1 ha).1, Nat.le_trans (List.length_filter_le _ _) hl, ?_⟩
    exact Nat.le_trans (List.length_filter_le _ _) (by omega)
  · rw [if_neg hk]
    exact ⟨ho, hh, hl, by show x.late.length ≤ k + 1; omega⟩
theorem Offered.ok {x x' : In} {e : Ev} {now v : Int} {k : Nat} (h : Offered x e now v x') (ho : InOk x k) : InOk x' (k + 1) := by
  rcases h with ⟨_, _, rfl⟩ | ⟨h0, _, _, had', hm, rfl⟩ | ⟨_, _, _, rfl⟩
  · exact (ho.clk _).mono (by omega)
  · exact takeP_ok (ho.clk _) (lookB_zero h0).2.2 hm
  · refine ⟨ho.ord, ho.had, Nat.le_trans ho.tlen (by omega), ?_⟩
    have := ho.llen
    show (lateP x.late e).length ≤ k + 1
    unfold lateP; split
    · omega
    · rw [List.length_append, List.length_singleton]; omega
theorem takeP_clk (x : In) (e : Ev) (had' : List (ByteArray × Row)) : (takeP x e had').clk = x.clk := by unfold takeP; split <;> rfl
theorem hearC_mark (c : Clk) (s : ByteArray) (at_ now : Int) : c.mark ≤ (hearC c s at_ now).mark := by
  unfold hearC; split
  · exact Int.le_trans (tickC_mark c now) (hearP_mark _ _ _)
  · exact tickC_mark c now
theorem Offered.mark {x x' : In} {e : Ev} {now v : Int} (h : Offered x e now v x') : (tickC x.clk now).mark ≤ x'.clk.mark := by
  rcases h with ⟨_, _, rfl⟩ | ⟨_, _, _, had', _, rfl⟩ | ⟨_, _, _, rfl⟩
  · exact Int.le_refl _
  · rw [takeP_clk]; exact hearC_mark _ _ _ _
  · exact hearC_mark _ _ _ _
theorem Offered.taken {x x' : In} {e : Ev} {now : Int} (h : Offered x e now 0 x') : (tickC x.clk now).mark < e.at_ := by
  rcases h with ⟨h0, h1, _⟩ | ⟨_, hh, _⟩ | ⟨_, _, h1, _⟩
  · exact absurd h1.symm h0
  · unfold hearsB at hh
    rw [tickC_twice, Bool.and_eq_true, decide_eq_true_iff] at hh
    exact hh.2
  · cases h1
theorem mayB_at {e : Ev} (h : mayB e = true) : nameB e.source = true ∧ tickB e.at_ ∧ 1 ≤ e.number ∧ e.number ≤ 1099511627776 := by
  unfold mayB at h
  simp only [Bool.and_eq_true, decide_eq_true_eq] at h
  exact ⟨h.2.1, h.2.2.2.1, h.2.2.1.1, h.2.2.1.2⟩
theorem Offered.late {x x' : In} {e : Ev} {now : Int} (h : Offered x e now 2 x') : e.at_ ≤ (tickC x.clk now).mark := by
  rcases h with ⟨h0, h1, _⟩ | ⟨_, _, h1, _⟩ | ⟨h0, hh, _, _⟩
  · rcases lookB_val x e with h | h | h <;> rw [h] at h1 <;> cases h1
  · cases h1
  · obtain ⟨h2, h3, _⟩ := mayB_at (lookB_zero h0).1
    unfold hearsB at hh
    rw [tickC_twice, h2, decide_eq_true h3] at hh
    simpa using hh
end Go.Proofs.YtmmfoeckggpgdaaGreatDoor
