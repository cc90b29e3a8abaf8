/-
  The walk of slices.Delete at ranges: one element is taken out. Rows of ranges in memory; the walks of dedupe's place and in. The set of identities in memory; the walks of dedupe's New, Has and Put.
-/
import Derived.Test.YtmmfoeckggpgdaaGreatDoorJ9
import Derived.Deep.AppendSrc
import Derived.Test.YtmmfoeckggpgdaaGreatDoorJ8
set_option linter.unusedSimpArgs false
set_option linter.unusedVariables false
namespace Go.Proofs.YtmmfoeckggpgdaaGreatDoor
open Go.RowKit Go.Lib Go.Proofs.YtmmfoeckggpgdaaGreatDoorW.PrintWords

/-- clearing elements of several cells -/
theorem run_clear_cellsK {P : Program} (w : World) (t e ty : TypeId) (z : Value) (ht : P.underlying t = some (.slice e)) (hz : (zeroValue e).run P w = .ok z w) (b o n c : Nat) (hn : n ≠ 0) (zs : List Value) (hzs : (Builtin.zeroCells z.cells n).toList = zs)
    (hc : ∀ j, j < zs.length → (w.cell? ⟨b, o + j, none⟩).isSome = true) (hf : ∀ j, j < zs.length → w.frozen? ⟨b, o + j, none⟩ = false) (h1 : ∀ v ∈ zs, v.oneCell' = true) :
    (Builtin.clear_ #[t] ty #[.slice (some ⟨b, o, none⟩) n c]).run P w = .ok (.tuple #[]) (w.setCells b o zs) := by
  have hst := run_storeCells_cells (P := P) b o zs 0 w (by simpa using hc) (by simpa using hf) h1
  obtain ⟨m, rfl⟩ : ∃ m, n = m + 1 := ⟨n - 1, by omega⟩
  simp only [Nat.add_zero] at hst
  simp [Builtin.clear_, run_underlying ht, hz, hzs, hst]
theorem own_block {w : World} {base : Nat} {e : TypeId} {K n c g : Nat} {cells : List Value} (h : w.ownsRow base e K (.slice (some ⟨g, 0, none⟩) n c) n cells) : ∃ cur, base ≤ g ∧ w.heap[g]? = some (.cells cur e (0, 0)) ∧ n ≤ c ∧ c ≤ maxLen ∧ cur.size = c * K ∧ cur.toList.take (n * K) = cells := by
  rcases h.2 with ⟨h', _⟩ | ⟨g', cap', cur, h', hbg, hg, hn, hcm, hcz, htk⟩
  · injection h' with h'; cases h'
  · injection h' with h' _ h''
    injection h' with h'
    injection h' with h'
    subst h' h''
    exact ⟨cur, hbg, hg, hn, hcm, hcz, htk⟩
theorem ri_zero (w : World) : (zeroValue 111).run Tryz.prog w = .ok (.agg #[.int .i64 0, .int .i64 0]) w := by kernel_rfl
set_option maxHeartbeats 4000000 in
set_option maxRecDepth 100000 in
theorem ri_delete_calls (base g m c i : Nat) (cells : List Value) (w : World) (hown : w.ownsRow base 111 2 (.slice (some ⟨g, 0, none⟩) (m + 1) c) (m + 1) cells) (hc1 : ∀ u ∈ cells, u.oneCell' = true) (hi : i ≤ m) :
    Calls Tryz.prog 147 #[.slice (some ⟨g, 0, none⟩) (m + 1) c, .int .i64 i, .int .i64 ((i : Int) + 1)] w fun e W' => RowPost base 111 2 (.slice (some ⟨g, 0, none⟩) (m + 1) c) m (cells.take (i * 2) ++ cells.drop ((i + 1) * 2)) w e W' := by
  have hlen := hown.1
  obtain ⟨cur, hbg, hg, hnc, hcm, hcz, htk⟩ := own_block hown
  have hgl := blk_lt hg
  have hcl : cur.toList.length = c * 2 := by simpa using hcz
  obtain ⟨i0, hi0, hz0, hzs, hzb⟩ := info_parts ri_info
  have hcells : ∀ j v, cells[j]? = some v → w.drew.cell? ⟨g, j, none⟩ = some v := fun j v hj => by
    rw [blk_cell (w := w.drew) hg j]
    rw [← htk, List.getElem?_take] at hj
    split at hj
    · simpa using hj
    · cases hj
  have hdl : (cells.drop ((i + 1) * 2)).length = (m - i) * 2 := by rw [List.length_drop, hlen]; omega
  have htl : (cells.take (i * 2)).length = i * 2 := by rw [List.length_take, hlen]; omega
  obtain ⟨W1, hW1⟩ : ∃ W1, W1 = w.drew.setCells g (i * 2) (cells.drop ((i + 1) * 2)) := ⟨_, rfl⟩
  have hb1 : W1.heap[g]? = some (.cells (cur.toList.take (i * 2) ++ cells.drop ((i + 1) * 2) ++ cur.toList.drop (i * 2 + (cells.drop ((i + 1) * 2)).length)).toArray 111 (0, 0)) := by
    rw [hW1]; exact setCells_blk g _ _ w.drew cur hg (by rw [hdl, hcz]; omega)
  have hct : cur.toList.take (i * 2) = cells.take (i * 2) := by rw [← htk, List.take_take]; congr 1; omega
  have hs1 : ((cur.toList.take (i * 2) ++ cells.drop ((i + 1) * 2) ++ cur.toList.drop (i * 2 + (cells.drop ((i + 1) * 2)).length)).toArray).size = c * 2 := by
    simp only [List.size_toArray, List.length_append, List.length_take, List.length_drop, hcl, hlen]; omega
  have hsum : i + (m - i) = m := by omega
  have happ : ∀ ty (x : Value), (x = .slice (some ⟨g, (i + 1) * 2, none⟩) (m - i) (c - (i + 1)) ∨ (i = m ∧ ∃ a q, x = .slice (some a) 0 q)) → (Builtin.append_ #[109, 109] ty #[.slice (some ⟨g, 0, none⟩) i c, x]).run Tryz.prog w.drew = .ok (.slice (some ⟨g, 0, none⟩) m c) W1 := fun ty x hx => by
    have hs : Src Tryz.prog i0.size 109 x (m - i) (cells.drop ((i + 1) * 2)) w.drew := by
      rw [hzs]
      rcases hx with rfl | ⟨h0, a, q, rfl⟩
      · exact Src.ofSlice w.drew Tryz.underlying109 ⟨g, (i + 1) * 2, none⟩ (m - i) _ _ hdl (fun j u hj => by rw [Addr.add_lit]; exact hcells ((i + 1) * 2 + j) u (by rwa [List.getElem?_drop] at hj)) (fun v hv => hc1 v (List.mem_of_mem_drop hv))
      · have e0 : cells.drop ((i + 1) * 2) = [] := List.drop_eq_nil_of_le (by omega)
        have e1 : m - i = 0 := by omega
        rw [e0, e1]
        exact Src.ofSlice w.drew Tryz.underlying109 a 0 q [] (by simp) (by simp) (by simp)
    have h := run_append_room_src w.drew 109 109 ty 111 i0 Tryz.underlying109 hi0 g 0 i c x (m - i) _ hs (by omega)
      (fun j hj => by rw [hzs, Nat.zero_add, blk_cell (w := w.drew) hg, Array.getElem?_eq_getElem (by rw [hcz]; omega)]; rfl) (fun j hj => by rw [hzs]; exact blk_frozen (w := w.drew) hg _)
    rw [hsum, hzs, Nat.zero_add, ← hW1] at h
    exact h
  obtain ⟨W2, hW2⟩ : ∃ W2, W2 = W1.setCells g (m * 2) [.int .i64 0, .int .i64 0] := ⟨_, rfl⟩
  have hclr : ∀ ty q, (Builtin.clear_ #[109] ty #[.slice (some ⟨g, m * 2, none⟩) 1 q]).run Tryz.prog W1 = .ok (.tuple #[]) W2 := fun ty q => by
    rw [hW2]
    exact run_clear_cellsK W1 109 111 ty _ Tryz.underlying109 (ri_zero W1) g (m * 2) 1 q (by omega) _ (by kernel_rfl)
      (fun j hj => by rw [blk_cell hb1, Array.getElem?_eq_getElem (by rw [hs1]; simp at hj; omega)]; rfl) (fun j hj => blk_frozen hb1 _) (by simp [Value.oneCell'])
  have hb2 := setCells_blk g [.int .i64 0, .int .i64 0] (m * 2) W1 _ hb1 (by rw [hs1]; simp; omega)
  rw [← hW2] at hb2
  have hF : Fr (fun k => (Value.slice (some ⟨g, 0, none⟩) (m + 1) c).ownBlock = some k) w W2 := by
    have f2 : Fr (fun k => k = g) w.drew W1 := by rw [hW1]; exact setCells_fr g _ _ _
    have f3 : Fr (fun k => k = g) W1 W2 := by rw [hW2]; exact setCells_fr g _ _ _
    exact ((((Fr.refl (fun k => k = g) w).drew).then_ f2 (fun _ h => .inl h)).then_ f3 (fun _ h => .inl h)).mono (fun k _ hk => by rw [hk]; rfl)
  have HFin : Aside0 (RowPost base 111 2 (.slice (some ⟨g, 0, none⟩) (m + 1) c) m (cells.take (i * 2) ++ cells.drop ((i + 1) * 2)) w (.returned (.slice (some ⟨g, 0, none⟩) m c)) W2) := ⟨by
    have hll : (cells.take (i * 2) ++ cells.drop ((i + 1) * 2)).length = m * 2 := by rw [List.length_append, htl, hdl]; omega
    refine ⟨_, rfl, ⟨hll, .inr ⟨g, c, _, rfl, hbg, hb2, by omega, hcm, ?_, ?_⟩⟩, hF, .inl rfl⟩
    · simp only [List.size_toArray, List.length_append, List.length_take, List.length_drop, hcl, hlen, List.toList_toArray, List.length_cons, List.length_nil]; omega
    · have e1 : (cur.toList.take (i * 2) ++ cells.drop ((i + 1) * 2) ++ cur.toList.drop (i * 2 + (cells.drop ((i + 1) * 2)).length)).take (m * 2) = cells.take (i * 2) ++ cells.drop ((i + 1) * 2) := by
        rw [hct]; exact List.take_left' hll
      rw [List.toList_toArray, List.toList_toArray, List.append_assoc, List.take_append_of_le_length (by rw [e1, hll]; exact Nat.le_refl _), List.take_take, Nat.min_self, e1]⟩
  have hc63 : c ≤ 9223372036854775807 := by unfold maxLen at hcm; omega
  have HA := Aside0.mk happ
  have hclr3 := hclr
  have hw1 : IntKind.i64.wrap ((i : Int) + 1) = (i : Int) + 1 := by rw [IntKind.wrap_i64]; omega
  have hne : ((i : Int) == (i : Int) + 1) = false := beq_eq_false_iff_ne.2 (by omega)
  have hin : i ≤ m + 1 := by omega
  have hin2 : i + 1 ≤ m + 1 := by omega
  have hci : ¬ (c = i) := by omega
  clear hcells hb1 hs1 hct hb2 hF hW1 hW2 htk hcz hcl hg hdl htl hlen hcm happ hown hclr
  have hcl1 := hclr3 0
  by_cases hq : c = i + 1
  · subst hq
    obtain rfl : i = m := by omega
    have hle : (i : Int) ≤ (i : Int) + 1 := by omega
    have hle2 : i ≤ i + 1 := by omega
    have hbb : (0 : Int) ≤ (i : Int) + 1 := by omega
    have htn : ((i : Int) + 1).toNat = i + 1 := by omega
    go_enter Tryz.func147, Tryz.ntmps147
    go_wp2_with fail
    go_still_tail 6, (by kernel_rfl)

    change wpList _ _ _ _ _ w.drew
    refine Lib.wpList_append_run _ rfl _ _ _ _ rfl _ _ rfl rfl _ _ (HA.out _ _ (.inr ⟨trivial, _, _, rfl⟩)) ?_
    go_wp2
    go_ret
    exact HFin.out
  · have hbb : (0 : Int) ≤ (i : Int) + 1 := by omega
    have htn : ((i : Int) + 1).toNat = i + 1 := by omega
    have hic : (i : Int) ≤ (c : Int) := by omega
    have hic2 : (i : Int) + 1 ≤ (c : Int) := by omega
    have hb3 : (i : Int) + 1 ≤ ((m + 1) : Int) := by omega
    go_enter Tryz.func147, Tryz.ntmps147
    go_wp2_with fail
    go_still_tail 6, (by kernel_rfl)
    change wpList _ _ _ _ _ w.drew
    refine Lib.wpList_append_run _ rfl _ _ _ _ rfl _ _ rfl rfl _ _ (HA.out _ _ (.inl rfl)) ?_
    go_wp2
    go_ret
    exact HFin.out
end Go.Proofs.YtmmfoeckggpgdaaGreatDoor
set_option linter.unusedSimpArgs false
set_option linter.unusedVariables false
namespace Go.Proofs.YtmmfoeckggpgdaaGreatDoor
open Go.RowKit Go.Lib Go.Maps Go.Proofs.YtmmfoeckggpgdaaGreatDoorW.PrintWords

def rgC (r : Int × Int) : List Value := [.int .i64 r.1, .int .i64 r.2]
def rowC (l : List (Int × Int)) : List Value := l.flatMap rgC
theorem rowC_cons (r : Int × Int) (l : List (Int × Int)) : rowC (r :: l) = .int .i64 r.1 :: .int .i64 r.2 :: rowC l := rfl
theorem rowC_append (a b : List (Int × Int)) : rowC (a ++ b) = rowC a ++ rowC b := List.flatMap_append
theorem rowC_len : ∀ l : List (Int × Int), (rowC l).length = l.length * 2
  | [] => rfl
  | r :: l => by rw [rowC_cons, List.length_cons, List.length_cons, rowC_len l, List.length_cons]; omega
theorem rowC_one {l : List (Int × Int)} : ∀ u ∈ rowC l, u.oneCell' = true := by
  intro u hu
  obtain ⟨r, _, hr⟩ := List.mem_flatMap.1 hu
  simp [rgC] at hr
  rcases hr with rfl | rfl <;> rfl
theorem rowC_get : ∀ (l : List (Int × Int)) (j : Nat) (h : j < l.length), (rowC l)[j * 2]? = some (.int .i64 l[j].1) ∧ (rowC l)[j * 2 + 1]? = some (.int .i64 l[j].2)
  | r :: l, 0, _ => ⟨rfl, rfl⟩
  | r :: l, j + 1, h => by
    have ih := rowC_get l j (by simpa using h)
    rw [rowC_cons, show (j + 1) * 2 = j * 2 + 1 + 1 by omega]
    exact ih
/-- a row of ranges of one's own -/
def RowAt (w : World) (base : Nat) (v : Value) (row : List (Int × Int)) : Prop := w.ownsRow base 111 2 v row.length (rowC row)
theorem RowAt.form {w : World} {base : Nat} {v : Value} {row : List (Int × Int)} (h : RowAt w base v row) : ∃ A c, v = .slice A row.length c ∧ row.length ≤ c ∧ c ≤ maxLen ∧ (0 < row.length → ∃ g, A = some ⟨g, 0, none⟩ ∧ g < w.heap.size ∧ base ≤ g ∧ ∀ j, (hj : j < row.length) → w.cell? ⟨g, j * 2, none⟩ = some (.int .i64 row[j].1) ∧ w.cell? ⟨g, j * 2 + 1, none⟩ = some (.int .i64 row[j].2) ∧ w.frozen? ⟨g, j * 2, none⟩ = false ∧ w.frozen? ⟨g, j * 2 + 1, none⟩ = false) := by
  rcases h.2 with ⟨rfl, h0⟩ | ⟨g, c, cur, rfl, hb, hg, hn, hm, hz, ht⟩
  · exact ⟨none, 0, by rw [h0], by omega, by unfold maxLen; omega, fun h => by omega⟩
  · refine ⟨some ⟨g, 0, none⟩, c, rfl, hn, hm, fun _ => ⟨g, rfl, blk_lt hg, hb, fun j hj => ?_⟩⟩
    obtain ⟨h1, h2⟩ := rowC_get row j hj
    rw [← ht, List.getElem?_take] at h1 h2
    rw [if_pos (by omega)] at h1 h2
    exact ⟨by rw [blk_cell hg]; simpa using h1, by rw [blk_cell hg]; simpa using h2, blk_frozen hg _, blk_frozen hg _⟩
theorem RowAt.below {w W : World} {base : Nat} {v : Value} {row : List (Int × Int)} (h : RowAt w base v row) (hb : Below w.heap.size w W) : RowAt W base v row := pw_own_below h hb
theorem RowAt.fr {w W : World} {base : Nat} {v : Value} {row : List (Int × Int)} {S : Nat → Prop} (h : RowAt w base v row) (hf : Fr S w W) (hs : ∀ k, v.ownBlock = some k → ¬ S k) : RowAt W base v row := owns_fr h hf hs

theorem searchR_calls (g b0 b1 : Nat) (n c h : Nat) (x y : Int) (w : World) (hh : h < n) (h0 : w.cell? ⟨b0, 0, none⟩ = some (.slice (some ⟨g, 0, none⟩) n c)) (h1 : w.cell? ⟨b1, 0, none⟩ = some (.int .i64 x)) (hy : w.cell? ⟨g, h * 2 + 1, none⟩ = some (.int .i64 y)) :
    Calls Tryz.prog 190 #[.int .i64 h, .pointer (some ⟨b0, 0, none⟩), .pointer (some ⟨b1, 0, none⟩)] w fun e w' => e = .returned (.bool (decide (x < y))) ∧ Below w.heap.size w w' := by
  have hb : (h : Int) < (n : Int) := by omega
  go_enter Tryz.func190, Tryz.ntmps190
  go_wp2_with fail
  go_quiet (fail)
  go_wp2
  go_ret
  exact ⟨rfl, pw_below_drewN (Below.refl _ _) _⟩
theorem place_of {row : List (Int × Int)} {x : Int} (hok : RowOk row) {lo : Nat} (hlo : lo ≤ row.length) (h1 : ∀ t, (ht : t < row.length) → t < lo → row[t].2 ≤ x) (h2 : ∀ t, (ht : t < row.length) → lo ≤ t → x < row[t].2) : lo = placeR row x := by
  obtain ⟨L, R, e, hl, hL, hR⟩ := parted row x hok
  rw [← hl]
  by_cases ha : lo < L.length
  · have hlt : lo < row.length := by rw [e, List.length_append]; omega
    have h3 := h2 lo hlt (Nat.le_refl _)
    have h4 : row[lo] ∈ L := by
      have : row[lo] = L[lo] := by subst e; exact List.getElem_append_left ha
      rw [this]; exact List.getElem_mem ha
    have := hL _ h4
    omega
  · by_cases hb : L.length < lo
    · have hlt : L.length < row.length := by omega
      have h3 := h1 L.length hlt hb
      have h4 : row[L.length] ∈ R := by
        have hr : 0 < R.length := by rw [e, List.length_append] at hlt; omega
        have : row[L.length] = R[0] := by subst e; rw [List.getElem_append_right (Nat.le_refl _)]; simp
        rw [this]; exact List.getElem_mem hr
      have := hR _ h4
      omega
    · omega
set_option maxHeartbeats 1000000 in
set_option maxRecDepth 100000 in
theorem search_calls (A : Option Addr) (b0 b1 n c : Nat) (row : List (Int × Int)) (x : Int) (w : World) (hok : RowOk row) (hn : n = row.length) (hbig : n ≤ 1000000000000) (h0 : w.cell? ⟨b0, 0, none⟩ = some (.slice A n c)) (h1 : w.cell? ⟨b1, 0, none⟩ = some (.int .i64 x))
    (hc : 0 < n → ∃ g, A = some ⟨g, 0, none⟩ ∧ ∀ j, (hj : j < row.length) → w.cell? ⟨g, j * 2 + 1, none⟩ = some (.int .i64 row[j].2)) :
    Calls Tryz.prog 189 #[.int .i64 n, .func (.func 190) #[] #[.pointer (some ⟨b0, 0, none⟩), .pointer (some ⟨b1, 0, none⟩)]] w fun e w' => e = .returned (.int .i64 (placeR row x)) ∧ Below w.heap.size w w' := by
  have HC := Aside0.mk hc
  have HOK := Aside0.mk hok
  have HN := Aside0.mk hn
  have H0 := Aside0.mk h0
  have H1 := Aside0.mk h1
  clear hc hok hn h0 h1
  go_enter Tryz.func189, Tryz.ntmps189
  go_wp2_with fail
  go_loopw [5, 6] (fun s5 s6 wr => ∃ lo hi : Nat, s5 = .int .i64 lo ∧ s6 = .int .i64 hi ∧ lo ≤ hi ∧ hi ≤ n ∧ Aside0 (∀ t, (ht : t < row.length) → t < lo → row[t].2 ≤ x) ∧ Aside0 (∀ t, (ht : t < row.length) → hi ≤ t → x < row[t].2) ∧ Aside0 (Below w.heap.size w wr)) (fun s5 s6 _ => (intOf s6 - intOf s5).toNat)
  case atStart => exact ⟨0, n, rfl, rfl, Nat.zero_le _, Nat.le_refl _, ⟨fun t _ h => by omega⟩, ⟨fun t h1 h2 => by have := HN.out; omega⟩, ⟨Below.refl _ _⟩⟩
  case round =>
    obtain ⟨lo, hi, rfl, rfl, hlh, hhn, HL, HH, HB⟩ := hrel
    by_cases hlt : lo < hi
    · go_wp2_with fail
      obtain ⟨mid, hmid⟩ : ∃ mid : Nat, ((lo : Int) + (hi : Int)) / 2 = (mid : Int) := ⟨(lo + hi) / 2, by omega⟩
      rw [hmid]
      have hm1 : lo ≤ mid := by omega
      have hm2 : mid < hi := by omega
      clear hmid
      obtain ⟨g, hA, hcell⟩ := HC.out (by omega)
      have hml : mid < row.length := by have := HN.out; omega
      have hy := hcell mid hml
      have H0w := H0.out
      rw [hA] at H0w
      refine (searchR_calls g b0 b1 n c mid x row[mid].2 wr (by omega) (pw_cell_below HB.out H0w) (pw_cell_below HB.out H1.out) (pw_cell_below HB.out hy)).mono ?_
      rintro e w2 ⟨rfl, hb2⟩
      have HB2 := Aside0.mk (HB.out.trans (hb2.mono HB.out.size))
      have HM := Aside0.mk hml
      have HOk := HOK.out
      have hpair : ∀ t, (ht : t < row.length) → (t ≤ mid → row[t].2 ≤ row[mid].2) ∧ (mid ≤ t → row[mid].2 ≤ row[t].2) := fun t ht => by
        have hp := List.pairwise_iff_getElem.1 HOk.1
        refine ⟨fun h => ?_, fun h => ?_⟩
        · by_cases e : t = mid
          · subst e; exact Int.le_refl _
          · have h3 := hp t mid ht hml (by omega)
            have h4 := HOk.2 row[mid] (List.getElem_mem hml)
            omega
        · by_cases e : mid = t
          · subst e; exact Int.le_refl _
          · have h3 := hp mid t hml ht (by omega)
            have h4 := HOk.2 row[t] (List.getElem_mem ht)
            omega
      have HPair := Aside0.mk hpair
      obtain ⟨y, hyd⟩ : ∃ y, y = row[mid].2 := ⟨_, rfl⟩
      rw [← hyd]
      have HYD := Aside0.mk hyd
      clear hpair hy hcell hA H0w hb2 HOk hyd
      by_cases hxy : x < y
      · have HH2 : Aside0 (∀ t, (ht : t < row.length) → mid ≤ t → x < row[t].2) := ⟨fun t ht h => by have h1 := (HPair.out t ht).2 h; have h2 := HYD.out; omega⟩
        have hdb : decide (x < y) = true := decide_eq_true hxy
        go_wp2
        go_roundw
        case rel => exact ⟨lo, mid, rfl, rfl, hm1, by omega, HL, HH2, HB2⟩
        case measure => simp [intOf]; omega
      · have HL2 : Aside0 (∀ t, (ht : t < row.length) → t < mid + 1 → row[t].2 ≤ x) := ⟨fun t ht h => by have h1 := (HPair.out t ht).1 (by omega); have h2 := HYD.out; omega⟩
        have hdb : decide (x < y) = false := decide_eq_false hxy
        go_wp2
        go_roundw
        case rel => exact ⟨mid + 1, hi, by go_num, rfl, by omega, hhn, HL2, HH, HB2⟩
        case measure => simp [intOf]; omega
    · obtain rfl : lo = hi := by omega
      have HP : Aside0 (lo = placeR row x) := ⟨place_of HOK.out (by have := HN.out; omega) HL.out HH.out⟩
      go_wp2
      go_ret
      exact ⟨ret_int (by rw [← HP.out]), HB.out⟩
set_option maxRecDepth 100000 in
theorem place_calls (base : Nat) (v : Value) (row : List (Int × Int)) (x : Int) (w : World) (hR : RowAt w base v row) (hok : RowOk row) (hbig : row.length ≤ 1000000000000) :
    Calls Tryz.prog 146 #[v, .int .i64 x] w fun e w' => e = .returned (.int .i64 (placeR row x)) ∧ Below w.heap.size w w' := by
  obtain ⟨A, c, rfl, hnc, hcm, hc⟩ := hR.form
  have HC := Aside0.mk hc
  have HOK := Aside0.mk hok
  clear hc hok hR
  go_enter Tryz.func146, Tryz.ntmps146
  have hB2 := Aside0.mk (below_alloc (below_alloc (Below.refl w.heap.size w) (.cells #[.slice A row.length c] 109)) (.cells #[.int .i64 x] 3))
  have k0 := Aside0.mk (blk_cell (new_1of2 w (.cells #[.slice A row.length c] 109) (.cells #[.int .i64 x] 3)) 0)
  have k1 := Aside0.mk (blk_cell (new_2of2 w (.cells #[.slice A row.length c] 109) (.cells #[.int .i64 x] 3)) 0)
  go_wp2_with fail
  refine (search_calls A w.heap.size (w.heap.size + 1) row.length c row x _ HOK.out rfl hbig k0.out k1.out (fun hp => by
    obtain ⟨g, hA, _, _, hc⟩ := HC.out hp
    exact ⟨g, hA, fun j hj => pw_cell_below hB2.out (hc j hj).2.1⟩)).mono ?_
  rintro e w2 ⟨rfl, hb⟩
  have hB3 := Aside0.mk (hB2.out.trans (hb.mono hB2.out.size))
  clear hb
  go_wp2
  go_ret
  exact ⟨rfl, hB3.out⟩
/-- a range at a row's place -/
theorem row_mid {L R : List (Int × Int)} {p : Int × Int} (h : L.length < (L ++ p :: R).length) : (L ++ p :: R)[L.length] = p := by simp
set_option maxRecDepth 100000 in
theorem in_calls (base : Nat) (v : Value) (row : List (Int × Int)) (x : Int) (w : World) (hR : RowAt w base v row) (hok : RowOk row) (hbig : row.length ≤ 1000000000000) :
    Calls Tryz.prog 142 #[v, .int .i64 x] w fun e w' => e = .returned (.bool (inR row x)) ∧ Below w.heap.size w w' := by
  have HR := Aside0.mk hR
  obtain ⟨L, R, e, hl, hL, hRR⟩ := parted row x hok
  have hin := in_parted (L := L) (R := R) (n := x) (by rw [← e]; exact hok) hL hRR
  rw [← e] at hin
  obtain ⟨A, c, hv, hnc, hcm, hc⟩ := hR.form
  have HOK := Aside0.mk hok
  have HC := Aside0.mk hc
  have HV := Aside0.mk hv
  obtain ⟨i, hi⟩ : ∃ i, i = placeR row x := ⟨_, rfl⟩
  have HI := Aside0.mk hi
  rw [← hi] at hl
  have HE := Aside0.mk e
  have HIn := Aside0.mk hin
  have hlen : row.length = L.length + R.length := by rw [e, List.length_append]
  clear hok hc hv hR hin hL hRR e hi
  cases R with
  | nil =>
    have hni : decide ((i : Int) < (row.length : Int)) = false := decide_eq_false (by simp at hlen; omega)
    go_enter Tryz.func142, Tryz.ntmps142
    go_wp2_with fail
    refine (place_calls base v row x w HR.out HOK.out hbig).mono ?_
    rintro e w1 ⟨rfl, hb⟩
    rw [← HI.out, HV.out]
    have HB := Aside0.mk hb
    clear hb
    go_wp2
    go_ret
    exact ⟨ret_bool HIn.out.symm, HB.out⟩
  | cons p R =>
    have hir : i < row.length := by simp at hlen; omega
    have hni : decide ((i : Int) < (row.length : Int)) = true := decide_eq_true (by omega)
    obtain ⟨g, hA, hgl, _, hcell⟩ := HC.out (by omega)
    have hp := (hcell i hir).1
    have hpe : row[i] = p := by
      have h1 := HE.out
      subst h1
      subst hl
      exact row_mid _
    rw [hpe] at hp
    have HA := Aside0.mk hA
    clear hcell hpe hA
    go_enter Tryz.func142, Tryz.ntmps142
    go_wp2_with fail
    refine (place_calls base v row x w HR.out HOK.out hbig).mono ?_
    rintro e w1 ⟨rfl, hb⟩
    rw [← HI.out, HV.out, HA.out]
    have HB := Aside0.mk hb
    have hp1 := pw_cell_below hb hp
    clear hb hp
    go_wp2
    all_goals go_ret
    all_goals exact ⟨ret_bool (by rw [HIn.out]; simp [headLe]), HB.out⟩
theorem dMay_calls (s : ByteArray) (n : Int) (w : World) :
    Calls Tryz.prog 145 #[.string s, .int .i64 n] w fun e w' => e = .returned (.bool (nameB s && decide (1 ≤ n) && decide (n ≤ 1099511627776))) ∧ Below w.heap.size w w' := by
  go_enter Tryz.func145, Tryz.ntmps145
  go_wp2_with fail
  refine (name_calls s w).mono ?_
  rintro e w1 ⟨rfl, hb⟩
  have HB := Aside0.mk hb
  clear hb
  obtain ⟨q, hq⟩ : ∃ q, q = nameB s := ⟨_, rfl⟩
  rw [← hq]
  have HQ := Aside0.mk hq
  clear hq
  cases q with
  | false =>
    go_wp2
    go_ret
    rw [← HQ.out]
    exact ⟨rfl, HB.out⟩
  | true =>
    by_cases h1 : 1 ≤ n
    · have hb1 : decide (1 ≤ n) = true := decide_eq_true h1
      go_wp2
      all_goals go_ret
      all_goals rw [← HQ.out]
      all_goals exact ⟨ret_bool (by simp [h1]), HB.out⟩
    · have hb1 : decide (1 ≤ n) = false := decide_eq_false h1
      go_wp2
      all_goals go_ret
      all_goals rw [← HQ.out]
      all_goals exact ⟨ret_bool (by simp; omega), HB.out⟩
end Go.Proofs.YtmmfoeckggpgdaaGreatDoor
set_option linter.unusedSimpArgs false
set_option linter.unusedVariables false
namespace Go.Proofs.YtmmfoeckggpgdaaGreatDoor
open Go.RowKit Go.Lib Go.Maps Go.Proofs.YtmmfoeckggpgdaaGreatDoorW.PrintWords

abbrev Row := Value × List (Int × Int)
def rowV (p : Row) : Value := p.1
def noRow : Row := (.slice none 0 0, [])
/-- a set in memory -/
structure SetAt (w : World) (base g b n : Nat) (L : List (ByteArray × Row)) : Prop where
  blk : w.heap[g]? = some (.cells #[.map (some b)] 108 (0, 0))
  map : TMap rowV Tryz.prog 9 w b n L
  rows : ∀ p ∈ L, RowAt w base p.2.1 p.2.2
  ok : ∀ p ∈ L, RowOk p.2.2
  small : ∀ p ∈ L, p.2.2.length ≤ n
  apart : ∀ p ∈ L, ∀ q ∈ L, ∀ k, p.2.1.ownBlock = some k → q.2.1.ownBlock = some k → p.1 = q.1
/-- the blocks of a set -/
def setS (g b : Nat) (L : List (ByteArray × Row)) : Nat → Prop := fun k => k = g ∨ k = b ∨ ∃ p ∈ L, p.2.1.ownBlock = some k
def hasS (L : List (ByteArray × Row)) (s : ByteArray) (x : Int) : Bool := inR ((getL L s).getD noRow).2 x
theorem SetAt.fr {w W : World} {base g b n : Nat} {L : List (ByteArray × Row)} {S : Nat → Prop} (h : SetAt w base g b n L) (hf : Fr S w W) (hs : ∀ k, setS g b L k → ¬ S k) : SetAt W base g b n L :=
  ⟨hf.blk h.blk (hs g (.inl rfl)), h.map.move (hf.block b h.map.lt (hs b (.inr (.inl rfl)))), fun p hp => (h.rows p hp).fr hf (fun k hk => hs k (.inr (.inr ⟨p, hp, hk⟩))), h.ok, h.small, h.apart⟩
theorem SetAt.below {w W : World} {base g b n : Nat} {L : List (ByteArray × Row)} (h : SetAt w base g b n L) (hb : Below w.heap.size w W) : SetAt W base g b n L := h.fr (Fr.of_below hb nob) (fun _ _ h => h)
theorem rowAt_nil (w : World) (base : Nat) : RowAt w base noRow.1 noRow.2 := own_nil w base _ _
theorem rowAt_typed {w : World} {base : Nat} {v : Value} {row : List (Int × Int)} (h : RowAt w base v row) (k : Nat) (hk : v.ownBlock = some k) : ∃ cells, w.heap[k]? = some (.cells cells 111 (0, 0)) := own_typed h k hk
theorem SetAt.row {w : World} {base g b n : Nat} {L : List (ByteArray × Row)} (h : SetAt w base g b n L) (s : ByteArray) : RowAt w base ((getL L s).getD noRow).1 ((getL L s).getD noRow).2 ∧ RowOk ((getL L s).getD noRow).2 ∧ ((getL L s).getD noRow).2.length ≤ n ∧ ∀ k, ((getL L s).getD noRow).1.ownBlock = some k → ∃ p ∈ L, p.1 = s ∧ p.2.1.ownBlock = some k := by
  cases e : getL L s with
  | none => exact ⟨rowAt_nil w base, ⟨List.Pairwise.nil, by simp [noRow]⟩, Nat.zero_le _, fun k hk => by simp [noRow, Value.ownBlock] at hk⟩
  | some p =>
    have hm := mem_of_getL e
    exact ⟨h.rows _ hm, h.ok _ hm, h.small _ hm, fun k hk => ⟨_, hm, rfl, hk⟩⟩
theorem SetAt.lt {w : World} {base g b n : Nat} {L : List (ByteArray × Row)} (h : SetAt w base g b n L) : ∀ k, setS g b L k → k < w.heap.size := by
  rintro k (rfl | rfl | ⟨p, hp, hk⟩)
  · exact blk_lt h.blk
  · exact h.map.lt
  · exact own_lt (h.rows p hp) k hk
theorem SetAt.map_obj {w : World} {base g b n : Nat} {L : List (ByteArray × Row)} (h : SetAt w base g b n L) : ∃ es clock, w.heap[b]? = some (.map es clock) := by
  obtain ⟨es, clock, hb, _⟩ := h.map.own
  exact ⟨es, clock, hb⟩
theorem SetAt.put {w W W2 : World} {base g b n : Nat} {L : List (ByteArray × Row)} {s : ByteArray} {v' : Value} {row' : List (Int × Int)} (h : SetAt w base g b n L) (hf : Fr (fun k => ((getL L s).getD noRow).1.ownBlock = some k) w W)
    (hrow : RowAt W base v' row') (hok : RowOk row') (hlen : row'.length ≤ n + 1) (hloc : v'.ownBlock = ((getL L s).getD noRow).1.ownBlock ∨ ∃ k, v'.ownBlock = some k ∧ w.heap.size ≤ k)
    (hmap : TMap rowV Tryz.prog 9 W2 b (n + 1) (putL L s (v', row'))) (hg2 : W.grownBy W2 (some b)) :
    SetAt W2 base g b (n + 1) (putL L s (v', row')) ∧ Fr (setS g b L) w W2 ∧ ∀ k, setS g b (putL L s (v', row')) k → setS g b L k ∨ w.heap.size ≤ k := by
  obtain ⟨_, _, _, hvs⟩ := h.row s
  obtain ⟨es, clock, hbo⟩ := h.map_obj
  have hvb : ∀ k, ((getL L s).getD noRow).1.ownBlock = some k → ∃ cells, w.heap[k]? = some (.cells cells 111 (0, 0)) := fun k hk => rowAt_typed (h.row s).1 k hk
  have hng : ∀ k, ((getL L s).getD noRow).1.ownBlock = some k → k ≠ g ∧ k ≠ b := fun k hk => by
    obtain ⟨cells, hc⟩ := hvb k hk
    refine ⟨fun e => ?_, fun e => ?_⟩
    · rw [e, h.blk] at hc
      injection hc with hc
      injection hc with _ hc _
      cases hc
    · rw [e, hbo] at hc; cases hc
  have hf2 : Fr (setS g b L) w W2 := (hf.mono (S2 := setS g b L) (fun k _ hk => by obtain ⟨p, hp, _, hpk⟩ := hvs k hk; exact .inr (.inr ⟨p, hp, hpk⟩))).grown hg2 (fun k hk => .inl (.inr (.inl (by injection hk with hk; exact hk.symm))))
  have hfb : Fr (fun k => k = b) W W2 := ⟨hg2.os, hg2.tape, hg2.output, hg2.size, fun i hi hn => hg2.block i hi (fun e => hn (by injection e))⟩
  have hgW : W.heap[g]? = some (.cells #[.map (some b)] 108 (0, 0)) := hf.blk h.blk (fun hk => (hng g hk).1 rfl)
  have hbW : W.heap[b]? = some (.map es clock) := hf.blk hbo (fun hk => (hng b hk).2 rfl)
  have hgb : g ≠ b := fun e => by rw [e, hbW] at hgW; cases hgW
  have hv'b : ∀ k, v'.ownBlock = some k → k ≠ b := fun k hk e => by
    obtain ⟨cells, hc⟩ := rowAt_typed hrow k hk
    rw [e, hbW] at hc; cases hc
  have hold : ∀ p ∈ L, p.1 ≠ s → RowAt W2 base p.2.1 p.2.2 := fun p hp hps => by
    have h1 : RowAt W base p.2.1 p.2.2 := (h.rows p hp).fr hf (fun k hk hk2 => by
      obtain ⟨q, hq, hqs, hqk⟩ := hvs k hk2
      exact hps ((h.apart p hp q hq k hk hqk).trans hqs))
    exact h1.fr hfb (fun k hk e => by
      have e2 : k = b := e
      obtain ⟨cells, hc⟩ := rowAt_typed h1 k hk
      rw [e2, hbW] at hc; cases hc)
  have hkeys : ∀ p ∈ putL L s (v', row'), p = (s, (v', row')) ∨ (p ∈ L ∧ p.1 ≠ s) := fun p hp => by
    by_cases e : p.1 = s
    · left
      have h1 := getL_of_mem hmap.rise (k := p.1) (v := p.2) hp
      rw [getL_put, if_pos e.symm] at h1
      exact Prod.ext e (by injection h1 with h1; exact h1.symm)
    · rcases mem_putL hp with h1 | h1
      · exact absurd (by rw [h1]) e
      · exact .inr ⟨h1, e⟩
  have hin : ∀ k, v'.ownBlock = some k → ∀ p ∈ L, p.1 ≠ s → p.2.1.ownBlock ≠ some k := fun k hk p hp hps hpk => by
    rcases hloc with e | ⟨k2, e, hk2⟩
    · rw [e] at hk
      obtain ⟨q, hq, hqs, hqk⟩ := hvs k hk
      exact hps ((h.apart p hp q hq k hpk hqk).trans hqs)
    · rw [e] at hk
      injection hk with hk
      have := own_lt (h.rows p hp) k hpk
      omega
  refine ⟨⟨hfb.blk hgW hgb, hmap, fun p hp => ?_, fun p hp => ?_, fun p hp => ?_, fun p hp q hq k hpk hqk => ?_⟩, hf2, fun k hk => ?_⟩
  · rcases hkeys p hp with rfl | ⟨h1, h2⟩
    · exact hrow.fr hfb (fun k hk e => hv'b k hk e)
    · exact hold p h1 h2
  · rcases hkeys p hp with rfl | ⟨h1, h2⟩
    · exact hok
    · exact h.ok p h1
  · rcases hkeys p hp with rfl | ⟨h1, h2⟩
    · exact hlen
    · exact Nat.le_succ_of_le (h.small p h1)
  · rcases hkeys p hp with rfl | ⟨h1, h2⟩
    · rcases hkeys q hq with rfl | ⟨h3, h4⟩
      · rfl
      · exact absurd hqk (hin k hpk q h3 h4)
    · rcases hkeys q hq with rfl | ⟨h3, h4⟩
      · exact absurd hpk (hin k hqk p h1 h2)
      · exact h.apart p h1 q h3 k hpk hqk
  · rcases hk with e | e | ⟨p, hp, hpk⟩
    · exact .inl (.inl e)
    · exact .inl (.inr (.inl e))
    · rcases hkeys p hp with rfl | ⟨h1, h2⟩
      · rcases hloc with e | ⟨k2, e, hk2⟩
        · have hpk' : v'.ownBlock = some k := hpk
          rw [e] at hpk'
          obtain ⟨q, hq, _, hqk⟩ := hvs k hpk'
          exact .inl (.inr (.inr ⟨q, hq, hqk⟩))
        · have hpk' : v'.ownBlock = some k := hpk
          rw [e] at hpk'
          injection hpk' with hpk'
          exact .inr (by omega)
      · exact .inl (.inr (.inr ⟨p, h1, hpk⟩))
theorem hasS_put {L : List (ByteArray × Row)} {s : ByteArray} {x : Int} {v' : Value} {row' : List (Int × Int)} (hp : PutOk ((getL L s).getD noRow).2 x row') (s' : ByteArray) (x' : Int) : hasS (putL L s (v', row')) s' x' = (decide (s' = s ∧ x' = x) || hasS L s' x') := by
  unfold hasS
  rw [getL_put]
  by_cases e : s = s'
  · subst e
    rw [if_pos rfl]
    show inR row' x' = _
    rw [hp.2]
    simp
  · rw [if_neg e]
    have : ¬ (s' = s ∧ x' = x) := fun h => e h.1.symm
    simp [this]
theorem setNew_calls (base : Nat) (w : World) (hb : base ≤ w.heap.size) : Calls Tryz.prog 68 #[] w fun e w' => e = .returned (.pointer (some ⟨w.heap.size + 1, 0, none⟩)) ∧ SetAt w' base (w.heap.size + 1) w.heap.size 0 [] ∧ Below w.heap.size w w' := by
  have hmm := @run_makeMap Tryz.prog
  go_enter Tryz.func68, Tryz.ntmps68
  go_wp2
  go_ret
  refine ⟨rfl, ⟨new_2of2 w _ _, (TMap.made rowV Tryz.prog 9 w).move ((below_alloc (Below.refl _ (w.alloc (.map #[] 0))) _).block _ (by simp)), by simp, by simp, by simp, by simp⟩, below_alloc (below_alloc (Below.refl _ _) _) _⟩
theorem zero_row (w : World) : (zeroValue 109).run Tryz.prog w = .ok (rowV noRow) w := by kernel_rfl
theorem has_calls (base g b n : Nat) (L : List (ByteArray × Row)) (s : ByteArray) (x : Int) (w : World) (h : SetAt w base g b n L) (hs : s.size ≤ maxLen) (hn : n ≤ 1000000000000) :
    Calls Tryz.prog 97 #[.pointer (some ⟨g, 0, none⟩), .string s, .int .i64 x] w fun e w' => e = .returned (.bool (hasS L s x)) ∧ Below w.heap.size w w' := by
  have p0 := blk_cell h.blk 0
  have hlk := h.map.look Tryz.underlying9 Tryz.underlying106 (z := noRow) (zero_row _) hs
  obtain ⟨h1, h2, h3, _⟩ := h.row s
  have H1 := Aside0.mk h1
  have H2 := Aside0.mk h2
  have HS : Aside0 (hasS L s x = inR ((getL L s).getD noRow).2 x) := ⟨rfl⟩
  obtain ⟨p, hp⟩ : ∃ p, p = (getL L s).getD noRow := ⟨_, rfl⟩
  rw [← hp] at hlk H1 H2 h3 HS
  obtain ⟨v, row⟩ := p
  unfold rowV at hlk
  simp only at hlk
  have h3' : row.length ≤ n := h3
  clear h1 h2 hp h h3
  go_enter Tryz.func97, Tryz.ntmps97
  go_wp2_with fail
  refine (in_calls base v row x w H1.out H2.out (by omega)).mono ?_
  rintro e w1 ⟨rfl, hb⟩
  have HB := Aside0.mk hb
  clear hb hlk
  go_wp2
  go_ret
  exact ⟨ret_bool HS.out.symm, HB.out⟩
end Go.Proofs.YtmmfoeckggpgdaaGreatDoor
