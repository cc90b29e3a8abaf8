/-
  Rows of elements of several cells: copying, cells set one by one, what a row owns. No program is in sight. The walk of slices.Insert at ranges: one element is put in at a place. The walk of slices.Insert at events: one element is put in at a place.
-/
import Derived.Test.YtmmfoeckggpgdaaGreatDoorJ2
import Derived.Laws.IdiomCopy
import Derived.Lib.AppendZerosOnto
import Derived.Lib.Overlaps
import Derived.Maps.AppendAt
import Derived.Shelf.Spec.SlicesInsert
import Derived.ProofKit
import Derived.StillTailTactics
import Derived.Test.YtmmfoeckggpgdaaGreatDoorProg
set_option linter.unusedSimpArgs false
set_option linter.unusedVariables false
namespace Go.Proofs.YtmmfoeckggpgdaaGreatDoor
open Go.RowKit Go.Lib Go.Proofs.YtmmfoeckggpgdaaGreatDoorW.PrintWords

/-- copying elements of several cells -/
theorem run_copy_cellsK {P : Program} (w : World) (dT sT ty elem : TypeId) (K : Nat) (b o dLen dCap : Nat) (a : Addr) (sLen sCap : Nat) (cs : List Value) (m : Nat)
    (hu : P.underlying dT = some (.slice elem)) (hs : (P.info? elem).map (·.size) = some K) (hm : m = Nat.min sLen dLen) (hn : cs.length = m * K)
    (hsrc : ∀ j v, cs[j]? = some v → w.cell? (a.add j) = some v) (hc : ∀ j, j < cs.length → (w.cell? ⟨b, o + j, none⟩).isSome = true) (hf : ∀ j, j < cs.length → w.frozen? ⟨b, o + j, none⟩ = false) (h1 : ∀ v ∈ cs, v.oneCell' = true) :
    (Builtin.copy_ #[dT, sT] ty #[.slice (some ⟨b, o, none⟩) dLen dCap, .slice (some a) sLen sCap]).run P w = .ok (goInt m) (w.setCells b o cs) := by
  have hst := run_storeCells_cells (P := P) b o cs 0 w (by simpa using hc) (by simpa using hf) h1
  have hfc := run_firstCells_some (P := P) w K m a sLen sCap cs hn hsrc
  cases hq : P.info? elem with
  | none => simp [hq] at hs
  | some i =>
    have hi : i.size = K := by simpa [hq] using hs
    simp [Builtin.copy_, run_underlying hu, Builtin.lenOf, sizeOf, typeInfo, hq, hi, ← hm, hfc, hst]
theorem setCells_blk {e : TypeId} (g : Nat) : ∀ (vs : List Value) (o : Nat) (w : World) (cur : Array Value), w.heap[g]? = some (.cells cur e (0, 0)) → o + vs.length ≤ cur.size →
    (w.setCells g o vs).heap[g]? = some (.cells (cur.toList.take o ++ vs ++ cur.toList.drop (o + vs.length)).toArray e (0, 0))
  | [], o, w, cur, h, _ => by
    simp [World.setCells, h]
  | v :: r, o, w, cur, h, hl => by
    simp only [List.length_cons] at hl
    have h1 : (w.setCell ⟨g, o, none⟩ v).heap[g]? = some (.cells (cur.setIfInBounds o v) e (0, 0)) := blk_set h o v
    rw [World.setCells, setCells_blk g r (o + 1) _ _ h1 (by simp; omega)]
    congr 3
    rw [Array.toList_setIfInBounds]
    have ho : o < cur.toList.length := by simp; omega
    rw [List.take_set, List.drop_set_of_lt (by omega)]
    rw [List.take_succ_eq_append_getElem ho, List.length_cons, show o + 1 + r.length = o + (r.length + 1) by omega]
    have hlen : (cur.toList.take o).length = o := by rw [List.length_take]; omega
    rw [List.set_append_right _ _ (by omega), hlen, Nat.sub_self]
    simp
theorem setCells_fr (g : Nat) : ∀ (vs : List Value) (o : Nat) (w : World), Fr (fun k => k = g) w (w.setCells g o vs)
  | [], _, w => Fr.refl _ w
  | v :: r, o, w => (((Fr.refl (fun k => k = g) w).setCell (p := ⟨g, o, none⟩) (.inl rfl) v)).then_ (setCells_fr g r (o + 1) _) (fun _ h => .inl h)
theorem owns_fr {w W : World} {S : Nat → Prop} {base : Nat} {e : TypeId} {K n : Nat} {v : Value} {xs : List Value} (h : w.ownsRow base e K v n xs) (hf : Fr S w W) (hs : ∀ k, v.ownBlock = some k → ¬ S k) : W.ownsRow base e K v n xs :=
  own_move h (fun k hk => hf.block k (own_lt h k hk) (hs k hk))
theorem owns_cap {w : World} {base : Nat} {e : TypeId} {K n : Nat} {A : Option Addr} {l c : Nat} {xs : List Value} (h : w.ownsRow base e K (.slice A l c) n xs) : l = n ∧ n ≤ c ∧ c ≤ maxLen := by
  rcases h.2 with ⟨h', h0⟩ | ⟨g', cap', cur, h', _, _, hnc, hcm, _⟩
  · injection h' with _ h1 h2
    subst h1 h2
    exact ⟨h0.symm, by omega, by unfold maxLen; omega⟩
  · injection h' with _ h1 h2
    subst h1 h2
    exact ⟨rfl, hnc, hcm⟩
/-- what a function that writes a row hands back -/
def RowPost (base : Nat) (E : TypeId) (K : Nat) (v : Value) (n : Nat) (cells : List Value) (w : World) (e : Ending) (W : World) : Prop :=
  ∃ v', e = .returned v' ∧ W.ownsRow base E K v' n cells ∧ Fr (fun k => v.ownBlock = some k) w W ∧ (v'.ownBlock = v.ownBlock ∨ ∃ b, v'.ownBlock = some b ∧ w.heap.size ≤ b)
theorem take_mid {α : Type} (a b c : List α) (k : Nat) (h : k = a.length + b.length) : (a ++ b ++ c).take k = a ++ b := by
  subst h
  rw [← List.length_append, List.take_left']
  rfl
end Go.Proofs.YtmmfoeckggpgdaaGreatDoor
set_option linter.unusedSimpArgs false
set_option linter.unusedVariables false
namespace Go.Proofs.YtmmfoeckggpgdaaGreatDoor
open Go.RowKit Go.Lib Go.Proofs.YtmmfoeckggpgdaaGreatDoorW.PrintWords

theorem ri_info : (Tryz.prog.info? 111).map (fun i => (i.zero, i.size, i.bytes)) = some (some (.agg #[.int .i64 0, .int .i64 0]), 2, 16) := by kernel_rfl
theorem ri_size (w : World) : (Go.sizeOf 111).run Tryz.prog w = .ok 2 w := by kernel_rfl
theorem ri_apart (w : World) (a b : Addr) (la ca lb cb : Nat) (hne : a.block ≠ b.block) (cA cB : Array Value) (hA : w.heap[a.block]? = some (.cells cA 111 (0, 0))) (hB : w.heap[b.block]? = some (.cells cB 111 (0, 0))) (h0 : cB.size ≠ 0) :
    (callFunc 191 #[.slice (some a) la ca, .slice (some b) lb cb]).run Tryz.prog w = .ok (.value (.bool false)) w := by
  rw [run_callFunc_extern Tryz.func191 (by kernel_rfl) (by kernel_rfl) (by kernel_rfl) (e := Extern.SlicesOverlaps.overlaps #[109, 109] #[4]) (by kernel_rfl),
    Lib.run_overlaps_apart w 109 4 111 Tryz.underlying109 2 (ri_size) a b la ca lb cb hne 111 111 cA.size cB.size (by simp [World.shape?, hA]) (by simp [World.shape?, hB]) h0 (by simp [World.frozen?, hA]) (by simp [World.frozen?, hA])]
  rfl
set_option maxHeartbeats 4000000 in
set_option maxRecDepth 100000 in
/-- at the end -/
theorem ri_insert_end (base : Nat) (v : Value) (n : Nat) (cells cs : List Value) (w : World) (hown : w.ownsRow base 111 2 v n cells) (hcs : cs.length = 2) (h1 : ∀ u ∈ cs, u.oneCell' = true) (hbig : (n + 1) * 16 ≤ 140737488355328) (hbase : base ≤ w.heap.size) :
    Calls Tryz.prog 148 #[v, .int .i64 n, .slice (some ⟨w.heap.size, 0, none⟩) 1 1] (w.alloc (.cells cs.toArray 111)) fun e W' => RowPost base 111 2 v (n + 1) (cells ++ cs) w e W' := by
  obtain ⟨i0, hi0, hz0, hzs, hzb⟩ := info_parts ri_info
  have hown1 := Aside0.mk (hown.alloc (.cells cs.toArray 111))
  have hnew : ∀ j u, cs[j]? = some u → (w.alloc (.cells cs.toArray 111)).cell? ((⟨w.heap.size, 0, none⟩ : Addr).add j) = some u := fun j u hu => by
    rw [add_plain, blk_cell (heap_alloc_new w _) j]
    simpa using hu
  have HN := Aside0.mk hnew
  have F0 := Aside0.mk ((Fr.refl (fun k => v.ownBlock = some k) w).alloc (.cells cs.toArray 111))
  have hval : ∃ A c, v = .slice A n c ∧ n ≤ c ∧ c ≤ maxLen ∧ (A = none → n = 0 ∧ c = 0) ∧ (∀ a, A = some a → ∃ g, a = ⟨g, 0, none⟩) := by
    rcases hown.2 with ⟨rfl, rfl⟩ | ⟨g, cap, cur, rfl, _, _, h3, h4, _⟩
    · exact ⟨none, 0, rfl, Nat.le_refl _, by decide, (fun _ => ⟨rfl, rfl⟩), (fun a h => by cases h)⟩
    · exact ⟨some _, cap, rfl, h3, h4, (fun h => by cases h), (fun a h => by cases h; exact ⟨g, rfl⟩)⟩
  obtain ⟨A, c, rfl, hnc, hcm, hnone, hsome⟩ := hval
  have HNn := Aside0.mk hnone
  have hc63 : c ≤ 9223372036854775807 := by unfold maxLen at hcm; omega
  have HB := Aside0.mk hbase
  have HBig := Aside0.mk hbig
  have HO0 := Aside0.mk hown
  clear hnew hown hnone hcm hbase hbig
  have fin : ∀ (W0 : World), W0 = w.alloc (.cells cs.toArray 111) → True := fun _ _ => trivial
  cases A with
  | none =>
    obtain ⟨rfl, rfl⟩ := HNn.out rfl
    go_enter Tryz.func148, Tryz.ntmps148
    go_wp2_with (at_builtin; refine wpList_append_own_at _ rfl _ _ 109 rfl base 111 i0 (.agg #[.int .i64 0, .int .i64 0]) 2 16 Tryz.underlying109 hi0 hz0 hzs hzb rfl (by decide) _ _ _ rfl hown1.out ⟨w.heap.size, 0, none⟩ 1 1 cs rfl (by rw [hcs]) HN.out h1 (by unfold maxLen; have := HBig.out; omega) (by have := HBig.out; omega) (by have := HB.out; simp; omega) ?_)
    intro v' w1 hown' hgrow hnil hloc
    have HR := Aside0.mk (And.intro hown' (And.intro (F0.out.grown hgrow (fun k hk => .inl hk)) hloc))
    clear hown' hgrow hnil hloc
    go_wp2
    go_ret
    refine ⟨v', rfl, HR.out.1, HR.out.2.1, HR.out.2.2.imp id (fun h => ⟨_, h, by omega⟩)⟩
  | some a =>
    obtain ⟨g, rfl⟩ := hsome a rfl
    by_cases hcn : c = n
    all_goals
      go_enter Tryz.func148, Tryz.ntmps148
      go_wp2_with (at_builtin; refine wpList_append_own_at _ rfl _ _ 109 rfl base 111 i0 (.agg #[.int .i64 0, .int .i64 0]) 2 16 Tryz.underlying109 hi0 hz0 hzs hzb rfl (by decide) _ _ _ rfl hown1.out ⟨w.heap.size, 0, none⟩ 1 1 cs rfl (by rw [hcs]) HN.out h1 (by unfold maxLen; have := HBig.out; omega) (by have := HBig.out; omega) (by have := HB.out; simp; omega) ?_)
      intro v' w1 hown' hgrow hnil hloc
      have HR := Aside0.mk (And.intro hown' (And.intro (F0.out.grown hgrow (fun k hk => .inl hk)) hloc))
      clear hown' hgrow hnil hloc
      go_wp2
      go_ret
      refine ⟨v', rfl, HR.out.1, HR.out.2.1, HR.out.2.2.imp id (fun h => ⟨_, h, by omega⟩)⟩
set_option maxHeartbeats 4000000 in
set_option maxRecDepth 100000 in
/-- in the midst, where there is room -/
theorem ri_insert_room (base g : Nat) (n c i : Nat) (cells cs : List Value) (w : World) (hown : w.ownsRow base 111 2 (.slice (some ⟨g, 0, none⟩) n c) n cells) (hc1 : ∀ u ∈ cells, u.oneCell' = true) (hcs : cs.length = 2) (h1 : ∀ u ∈ cs, u.oneCell' = true) (hi : i < n) (hroom : n + 1 ≤ c) (hbig : (n + 1) * 16 ≤ 140737488355328) :
    Calls Tryz.prog 148 #[.slice (some ⟨g, 0, none⟩) n c, .int .i64 i, .slice (some ⟨w.heap.size, 0, none⟩) 1 1] (w.alloc (.cells cs.toArray 111)) fun e W' => RowPost base 111 2 (.slice (some ⟨g, 0, none⟩) n c) (n + 1) (cells.take (i * 2) ++ cs ++ cells.drop (i * 2)) w e W' := by
  have hown0 := hown
  obtain ⟨hlen, h⟩ := hown
  obtain ⟨cur, hbg, hg, hcm, hcz, htk⟩ : ∃ cur, base ≤ g ∧ w.heap[g]? = some (.cells cur 111 (0, 0)) ∧ c ≤ maxLen ∧ cur.size = c * 2 ∧ cur.toList.take (n * 2) = cells := by
    rcases h with ⟨h', _⟩ | ⟨g', cap', cur, h', hbg, hg, _, hcm, hcz, htk⟩
    · injection h' with h'; cases h'
    · injection h' with h' _ h''
      injection h' with h'
      injection h' with h'
      subst h' h''
      exact ⟨cur, hbg, hg, hcm, hcz, htk⟩
  have hgl := blk_lt hg
  obtain ⟨W, hW⟩ : ∃ W, W = w.alloc (.cells cs.toArray 111) := ⟨_, rfl⟩
  have hgW : W.heap[g]? = some (.cells cur 111 (0, 0)) := by rw [hW]; exact blk_alloc hg _
  have hvW : W.heap[w.heap.size]? = some (.cells cs.toArray 111 (0, 0)) := by rw [hW]; exact heap_alloc_new w _
  have hcl : cur.toList.length = c * 2 := by simpa using hcz
  have hcells : ∀ j v, cells[j]? = some v → W.cell? ⟨g, j, none⟩ = some v := fun j v hj => by
    rw [blk_cell hgW j]
    rw [← htk, List.getElem?_take] at hj
    split at hj
    · simpa using hj
    · cases hj
  have hsp : ∀ j, j < (n + 1) * 2 → (W.cell? ⟨g, j, none⟩).isSome = true := fun j hj => by
    have hjc : j < cur.size := by rw [hcz]; exact Nat.lt_of_lt_of_le hj (Nat.mul_le_mul_right _ hroom)
    rw [blk_cell hgW j, Array.getElem?_eq_getElem hjc]; rfl
  have hfz : ∀ j, W.frozen? ⟨g, j, none⟩ = false := fun j => blk_frozen hgW j
  have hvs : ∀ j v, cs[j]? = some v → W.cell? ⟨w.heap.size, j, none⟩ = some v := fun j v hj => by
    rw [blk_cell hvW j]; simpa using hj
  have hne : w.heap.size ≠ g := by omega
  have hov : ∀ lb cb o, (callFunc 191 #[.slice (some ⟨w.heap.size, 0, none⟩) 1 1, .slice (some ⟨g, o, none⟩) lb cb]).run Tryz.prog W = .ok (.value (.bool false)) W := fun lb cb o =>
    ri_apart W _ _ _ _ _ _ hne cs.toArray cur hvW hgW (by rw [hcz]; omega)
  have hsz : (Tryz.prog.info? 111).map (·.size) = some 2 := by
    obtain ⟨i0, hi0, _, h1, _⟩ := info_parts ri_info
    rw [hi0]; simp [h1]
  have hdl : (cells.drop (i * 2)).length = (n - i) * 2 := by rw [List.length_drop, hlen]; omega
  have hcp1 : ∀ ty dc sc, (Builtin.copy_ #[109, 109] ty #[.slice (some ⟨g, (i + 1) * 2, none⟩) (n + 1 - (i + 1)) dc, .slice (some ⟨g, i * 2, none⟩) (n + 1 - i) sc]).run Tryz.prog W.drew = .ok (goInt (n - i : Nat)) (W.drew.setCells g ((i + 1) * 2) (cells.drop (i * 2))) := fun ty dc sc =>
    run_copy_cellsK W.drew _ _ ty 111 2 g ((i + 1) * 2) (n + 1 - (i + 1)) dc ⟨g, i * 2, none⟩ (n + 1 - i) sc (cells.drop (i * 2)) (n - i) Tryz.underlying109 hsz (by simp only [Nat.min_def]; split <;> omega) hdl
      (fun j v hj => by rw [Addr.add_lit]; exact hcells (i * 2 + j) v (by rwa [List.getElem?_drop] at hj))
      (fun j hj => hsp _ (by omega)) (fun j hj => hfz _) (fun v hv => hc1 v (List.mem_of_mem_drop hv))
  obtain ⟨W1, hW1⟩ : ∃ W1, W1 = W.drew.setCells g ((i + 1) * 2) (cells.drop (i * 2)) := ⟨_, rfl⟩
  have hb1 : W1.heap[g]? = some (.cells (cur.toList.take ((i + 1) * 2) ++ cells.drop (i * 2) ++ cur.toList.drop ((i + 1) * 2 + (cells.drop (i * 2)).length)).toArray 111 (0, 0)) := by
    rw [hW1]; exact setCells_blk g _ _ _ cur hgW (by rw [hdl, hcz]; omega)
  have hv1 : W1.heap[w.heap.size]? = some (.cells cs.toArray 111 (0, 0)) := by
    rw [hW1]; exact (setCells_fr g _ _ W.drew).blk hvW hne
  rw [← hW1] at hcp1
  have hsz1 : ((cur.toList.take ((i + 1) * 2) ++ cells.drop (i * 2) ++ cur.toList.drop ((i + 1) * 2 + (cells.drop (i * 2)).length)).toArray).size = c * 2 := by
    simp only [List.size_toArray, List.length_append, List.length_take, List.length_drop, hlen, hcl]
    omega
  have hcp2 : ∀ ty dc, (Builtin.copy_ #[109, 109] ty #[.slice (some ⟨g, i * 2, none⟩) (n + 1 - i) dc, .slice (some ⟨w.heap.size, 0, none⟩) 1 1]).run Tryz.prog W1 = .ok (goInt (1 : Nat)) (W1.setCells g (i * 2) cs) := fun ty dc =>
    run_copy_cellsK W1 _ _ ty 111 2 g (i * 2) (n + 1 - i) dc ⟨w.heap.size, 0, none⟩ 1 1 cs 1 Tryz.underlying109 hsz (by simp only [Nat.min_def]; split <;> omega) (by rw [hcs])
      (fun j v hj => by rw [Addr.add_lit, Nat.zero_add, blk_cell hv1 j]; simpa using hj)
      (fun j hj => by rw [blk_cell hb1, Array.getElem?_eq_getElem (by rw [hsz1]; omega)]; rfl) (fun j hj => blk_frozen hb1 _) h1
  have hb2 : (W1.setCells g (i * 2) cs).heap[g]? = some (.cells (cells.take (i * 2) ++ cs ++ cells.drop (i * 2) ++ cur.toList.drop ((n + 1) * 2)).toArray 111 (0, 0)) := by
    have h := setCells_blk g cs (i * 2) W1 _ hb1 (by rw [hsz1, hcs]; omega)
    rw [h]
    congr 3
    have e1 : i * 2 + cs.length = (i + 1) * 2 := by rw [hcs]; omega
    have e2 : (cur.toList.take ((i + 1) * 2)).length = (i + 1) * 2 := by rw [List.length_take, hcl]; omega
    have e3 : (i + 1) * 2 + (cells.drop (i * 2)).length = (n + 1) * 2 := by rw [hdl]; omega
    have e4 : (cur.toList.take ((i + 1) * 2)).take (i * 2) = cells.take (i * 2) := by
      rw [List.take_take, ← htk, List.take_take]
      congr 1
      omega
    simp only [e1, e3, List.append_assoc]
    rw [List.take_append_of_le_length (by rw [e2]; omega), e4, List.drop_left' e2]
  have hF : Fr (fun k => (Value.slice (some ⟨g, 0, none⟩) n c).ownBlock = some k) w (W1.setCells g (i * 2) cs) := by
    have f1 : Fr (fun k => k = g) w W.drew := by rw [hW]; exact ((Fr.refl _ w).alloc _).drew
    have f2 : Fr (fun k => k = g) W.drew W1 := by rw [hW1]; exact setCells_fr g _ _ _
    exact ((f1.then_ f2 (fun _ h => .inl h)).then_ (setCells_fr g cs (i * 2) W1) (fun _ h => .inl h)).mono (fun k _ hk => by rw [hk]; rfl)
  have HFin : Aside0 (RowPost base 111 2 (.slice (some ⟨g, 0, none⟩) n c) (n + 1) (cells.take (i * 2) ++ cs ++ cells.drop (i * 2)) w (.returned (.slice (some ⟨g, 0, none⟩) (n + 1) c)) (W1.setCells g (i * 2) cs)) := ⟨by
    have hll : (cells.take (i * 2) ++ cs ++ cells.drop (i * 2)).length = (n + 1) * 2 := by simp only [List.length_append, List.length_take, List.length_drop, hlen, hcs]; omega
    refine ⟨_, rfl, ⟨hll, .inr ⟨g, c, _, rfl, hbg, hb2, hroom, hcm, ?_, ?_⟩⟩, hF, .inl rfl⟩
    · simp only [List.size_toArray, List.length_append, List.length_take, List.length_drop, hlen, hcs, hcl]; omega
    · rw [List.toList_toArray, List.take_left' hll]⟩
  have HC := Aside0.mk hcp1
  have HC2 := Aside0.mk hcp2
  have hc63 : c ≤ 9223372036854775807 := by unfold maxLen at hcm; omega
  have hbx2 : ¬ (c = i + 1) := by omega
  have hbx4 : ¬ (c = i) := by omega
  rw [← hW]
  have HWd : Aside0 (W1 = W.drew.setCells g ((i + 1) * 2) (cells.drop (i * 2))) := ⟨hW1⟩
  clear hcells hsp hfz hvs hb1 hv1 hsz1 hb2 hF hcp1 hcp2 hW1 hgW hvW htk hcz hcl hg hW hdl hsz hown0 hlen h hcm
  have hin : i ≤ n := by omega
  have hw1 : IntKind.i64.wrap ((i : Int) + 1) = (i : Int) + 1 := by rw [IntKind.wrap_i64]; omega
  have hbb : (0 : Int) ≤ (i : Int) + 1 := by omega
  have htn : ((i : Int) + 1).toNat = i + 1 := by omega
  have hb3 : (i : Int) ≤ (n : Int) + 1 := by omega
  go_enter Tryz.func148, Tryz.ntmps148
  go_wp2_with (simp only [hov])
  go_still_tail 8, (by kernel_rfl)
  change wpList _ _ _ _ _ W.drew
  refine wpList_copy_runI _ rfl _ _ 109 109 rfl (.slice (some ⟨g, (i + 1) * 2, none⟩) (n + 1 - (i + 1)) (c - (i + 1))) (.slice (some ⟨g, i * 2, none⟩) (n + 1 - i) (c - i)) (by simp [Act.eval, Act.put]) (by simp [Act.eval, Act.put]) (HC.out 3 (c - (i + 1)) (c - i)) ?_
  have hc2 := HC2.out 3 (c - i)
  go_wp2
  go_ret
  exact HFin.out
set_option maxHeartbeats 4000000 in
set_option maxRecDepth 100000 in
/-- in the midst, where there is no room: a new row -/
theorem ri_insert_grow (base g : Nat) (n c i : Nat) (cells cs : List Value) (w : World) (hown : w.ownsRow base 111 2 (.slice (some ⟨g, 0, none⟩) n c) n cells) (hc1 : ∀ u ∈ cells, u.oneCell' = true) (hcs : cs.length = 2) (h1 : ∀ u ∈ cs, u.oneCell' = true) (hi : i < n) (hroom : c < n + 1) (hbig : (n + 1) * 16 ≤ 140737488355328) (hbase : base ≤ w.heap.size) :
    Calls Tryz.prog 148 #[.slice (some ⟨g, 0, none⟩) n c, .int .i64 i, .slice (some ⟨w.heap.size, 0, none⟩) 1 1] (w.alloc (.cells cs.toArray 111)) fun e W' => RowPost base 111 2 (.slice (some ⟨g, 0, none⟩) n c) (n + 1) (cells.take (i * 2) ++ cs ++ cells.drop (i * 2)) w e W' := by
  obtain ⟨hlen, h⟩ := hown
  obtain ⟨cur, hg, hncap, hcm, hcz, htk⟩ : ∃ cur, w.heap[g]? = some (.cells cur 111 (0, 0)) ∧ n ≤ c ∧ c ≤ maxLen ∧ cur.size = c * 2 ∧ cur.toList.take (n * 2) = cells := by
    rcases h with ⟨h', _⟩ | ⟨g', cap', cur, h', _, hg, hn, hcm, hcz, htk⟩
    · injection h' with h'; cases h'
    · injection h' with h' _ h''
      injection h' with h'
      injection h' with h'
      subst h' h''
      exact ⟨cur, hg, hn, hcm, hcz, htk⟩
  have hgl := blk_lt hg
  obtain ⟨W, hW⟩ : ∃ W, W = w.alloc (.cells cs.toArray 111) := ⟨_, rfl⟩
  have hWs : W.heap.size = w.heap.size + 1 := by rw [hW]; simp
  have hgW : W.heap[g]? = some (.cells cur 111 (0, 0)) := by rw [hW]; exact blk_alloc hg _
  have hvW : W.heap[w.heap.size]? = some (.cells cs.toArray 111 (0, 0)) := by rw [hW]; exact heap_alloc_new w _
  have hcells : ∀ (V : World), V.heap[g]? = some (.cells cur 111 (0, 0)) → ∀ j v, cells[j]? = some v → V.cell? ⟨g, j, none⟩ = some v := fun V hV j v hj => by
    rw [blk_cell hV j]
    rw [← htk, List.getElem?_take] at hj
    split at hj
    · simpa using hj
    · cases hj
  obtain ⟨i0, hi0, hz0, hzs, hzb⟩ := info_parts ri_info
  have hsz : (Tryz.prog.info? 111).map (·.size) = some 2 := by rw [hi0]; simp [hzs]
  have hdl : (cells.drop (i * 2)).length = (n - i) * 2 := by rw [List.length_drop, hlen]; omega
  have htl : (cells.take (i * 2)).length = i * 2 := by rw [List.length_take, hlen]; omega
  have hkk : (n : Int) + 1 - (i : Int) = ((n + 1 - i : Nat) : Int) := by omega
  have hik : i + (n + 1 - i) = n + 1 := by omega
  have hold : (Builtin.firstCells i0.size i (.slice (some ⟨g, 0, none⟩) i c)).run Tryz.prog W.drew = .ok (cells.take (i * 2)).toArray W.drew := by
    rw [hzs]
    exact run_firstCells_some W.drew 2 i ⟨g, 0, none⟩ i c (cells.take (i * 2)) htl (fun j v hj => by
      rw [Addr.add_lit, Nat.zero_add]
      rw [List.getElem?_take] at hj
      split at hj
      · exact hcells W.drew hgW j v hj
      · cases hj)
  obtain ⟨G, hG⟩ : ∃ G, G = grownCap W (n + 1) c 111 := ⟨_, rfl⟩
  obtain ⟨ROW, hROW⟩ : ∃ ROW : Array Value, ROW = (cells.take (i * 2)).toArray ++ Builtin.zeroCells (.agg #[.int .i64 0, .int .i64 0] : Value).cells (n + 1 - i) ++ Builtin.zeroCells (.agg #[.int .i64 0, .int .i64 0] : Value).cells (G - (n + 1)) := ⟨_, rfl⟩
  have hrz : ∀ ty, (Builtin.append_ #[109, 3] ty #[.slice (some ⟨g, 0, none⟩) i c, .int .i64 ((n : Int) + 1 - (i : Int))]).run Tryz.prog W = .ok (.slice (some ⟨W.heap.size, 0, none⟩) (n + 1) G) (W.drew.alloc (.cells ROW 111)) := fun ty => by
    have h := Lib.run_append_grow_zeros W 109 3 ty 111 i0 _ .i64 .i64 Tryz.underlying109 Tryz.underlying3 hi0 hz0 (some ⟨g, 0, none⟩) i c (cells.take (i * 2)) hold (n + 1 - i) (by omega) (by omega) (by omega) (by omega) (by rw [hzb]; omega) (by rw [hzb, hik]; exact growslice_fits hroom hbig)
    rw [hik, ← hG, ← hROW] at h
    rw [hkk]
    exact h
  have hGn : n + 1 ≤ G := by rw [hG]; exact grownCap_ge W _ _ _
  have hGm : G ≤ maxLen := by rw [hG]; exact grownCap_le_maxLen W (n + 1) c 111 (by unfold maxLen; omega)
  have hRs : ROW.size = G * 2 := by
    rw [hROW]
    simp only [Array.size_append, List.size_toArray, htl, Builtin.zeroCells, Value.cells]
    simp
    omega
  have hRt : ROW.toList.take (i * 2) = cells.take (i * 2) := by
    rw [hROW]
    simp only [Array.toList_append, List.append_assoc]
    exact List.take_left' (by simp [htl])
  obtain ⟨N, hN⟩ : ∃ N, N = W.heap.size := ⟨_, rfl⟩
  obtain ⟨W1, hW1⟩ : ∃ W1, W1 = W.drew.alloc (.cells ROW 111) := ⟨_, rfl⟩
  rw [← hW1, ← hN] at hrz
  have hb1 : W1.heap[N]? = some (.cells ROW 111 (0, 0)) := by rw [hW1, hN]; exact heap_alloc_new W.drew _
  have hg1 : W1.heap[g]? = some (.cells cur 111 (0, 0)) := by rw [hW1]; exact blk_alloc (w := W.drew) hgW _
  have hv1 : W1.heap[w.heap.size]? = some (.cells cs.toArray 111 (0, 0)) := by rw [hW1]; exact blk_alloc (w := W.drew) hvW _
  have hvN : w.heap.size ≠ N := by omega
  have hgN : g ≠ N := by omega
  have hcpA : ∀ ty dc, (Builtin.copy_ #[109, 109] ty #[.slice (some ⟨N, i * 2, none⟩) (n + 1 - i) dc, .slice (some ⟨w.heap.size, 0, none⟩) 1 1]).run Tryz.prog W1 = .ok (goInt (1 : Nat)) (W1.setCells N (i * 2) cs) := fun ty dc =>
    run_copy_cellsK W1 _ _ ty 111 2 N (i * 2) (n + 1 - i) dc ⟨w.heap.size, 0, none⟩ 1 1 cs 1 Tryz.underlying109 hsz (by simp only [Nat.min_def]; split <;> omega) (by rw [hcs])
      (fun j v hj => by rw [Addr.add_lit, Nat.zero_add, blk_cell hv1 j]; simpa using hj)
      (fun j hj => by rw [blk_cell hb1, Array.getElem?_eq_getElem (by rw [hRs]; omega)]; rfl) (fun j hj => blk_frozen hb1 _) h1
  obtain ⟨W2, hW2⟩ : ∃ W2, W2 = W1.setCells N (i * 2) cs := ⟨_, rfl⟩
  rw [← hW2] at hcpA
  have hb2 : W2.heap[N]? = some (.cells (ROW.toList.take (i * 2) ++ cs ++ ROW.toList.drop (i * 2 + cs.length)).toArray 111 (0, 0)) := by
    rw [hW2]; exact setCells_blk N cs (i * 2) W1 ROW hb1 (by rw [hRs, hcs]; omega)
  have hg2 : W2.heap[g]? = some (.cells cur 111 (0, 0)) := by rw [hW2]; exact (setCells_fr N _ _ W1).blk hg1 hgN
  have hRl : ROW.toList.length = G * 2 := by simpa using hRs
  have hs2 : ((ROW.toList.take (i * 2) ++ cs ++ ROW.toList.drop (i * 2 + cs.length)).toArray).size = G * 2 := by
    simp only [List.size_toArray, List.length_append, List.length_take, List.length_drop, hRl, hcs]
    omega
  have hcpB : ∀ ty dc sc, (Builtin.copy_ #[109, 109] ty #[.slice (some ⟨N, (i + 1) * 2, none⟩) (n + 1 - (i + 1)) dc, .slice (some ⟨g, i * 2, none⟩) (n - i) sc]).run Tryz.prog W2.drew = .ok (goInt (n - i : Nat)) (W2.drew.setCells N ((i + 1) * 2) (cells.drop (i * 2))) := fun ty dc sc =>
    run_copy_cellsK W2.drew _ _ ty 111 2 N ((i + 1) * 2) (n + 1 - (i + 1)) dc ⟨g, i * 2, none⟩ (n - i) sc (cells.drop (i * 2)) (n - i) Tryz.underlying109 hsz (by simp only [Nat.min_def]; split <;> omega) hdl
      (fun j v hj => by rw [Addr.add_lit]; exact hcells W2.drew hg2 (i * 2 + j) v (by rwa [List.getElem?_drop] at hj))
      (fun j hj => by rw [blk_cell (w := W2.drew) hb2, Array.getElem?_eq_getElem (by rw [hs2]; omega)]; rfl) (fun j hj => blk_frozen (w := W2.drew) hb2 _) (fun v hv => hc1 v (List.mem_of_mem_drop hv))
  obtain ⟨W3, hW3⟩ : ∃ W3, W3 = W2.drew.setCells N ((i + 1) * 2) (cells.drop (i * 2)) := ⟨_, rfl⟩
  have hb3 : W3.heap[N]? = some (.cells (cells.take (i * 2) ++ cs ++ cells.drop (i * 2) ++ ROW.toList.drop ((n + 1) * 2)).toArray 111 (0, 0)) := by
    have h := setCells_blk N (cells.drop (i * 2)) ((i + 1) * 2) W2.drew _ hb2 (by rw [hs2, hdl]; omega)
    rw [hW3, h]
    congr 3
    have e0 : (cells.take (i * 2) ++ cs).length = (i + 1) * 2 := by rw [List.length_append, htl, hcs]; omega
    have e3 : (i + 1) * 2 + (cells.drop (i * 2)).length = (n + 1) * 2 := by rw [hdl]; omega
    have e4 : i * 2 + cs.length = (i + 1) * 2 := by rw [hcs]; omega
    simp only [e3, e4, hRt]
    rw [List.take_left' e0, show (n + 1) * 2 = (cells.take (i * 2) ++ cs).length + (n - i) * 2 by rw [e0]; omega, List.drop_length_add_append, List.drop_drop, e0]
    try (congr 2; omega)
  rw [← hW3] at hcpB
  have hF : Fr (fun k => (Value.slice (some ⟨g, 0, none⟩) n c).ownBlock = some k) w W3 := by
    have f0 : Fr (fun k => (Value.slice (some ⟨g, 0, none⟩) n c).ownBlock = some k) w W1 := by rw [hW1, hW]; exact (((Fr.refl _ w).alloc _).drew).alloc _
    have f2 : Fr (fun k => k = N) W1 W2 := by rw [hW2]; exact setCells_fr N _ _ _
    have f3 : Fr (fun k => k = N) W2.drew W3 := by rw [hW3]; exact setCells_fr N _ _ _
    exact (f0.then_ f2 (fun k hk => .inr (by omega))).drew.then_ f3 (fun k hk => .inr (by omega))
  have HFin : Aside0 (RowPost base 111 2 (.slice (some ⟨g, 0, none⟩) n c) (n + 1) (cells.take (i * 2) ++ cs ++ cells.drop (i * 2)) w (.returned (.slice (some ⟨N, 0, none⟩) (n + 1) G)) W3) := ⟨by
    have hll : (cells.take (i * 2) ++ cs ++ cells.drop (i * 2)).length = (n + 1) * 2 := by simp only [List.length_append, hdl, htl, hcs]; omega
    refine ⟨_, rfl, ⟨hll, .inr ⟨N, G, _, rfl, by omega, hb3, hGn, hGm, ?_, ?_⟩⟩, hF, .inr ⟨N, rfl, by omega⟩⟩
    · simp only [List.size_toArray, List.length_append, List.length_drop, hdl, htl, hcs, hRl]; omega
    · rw [List.toList_toArray, List.take_left' hll]⟩
  have hc63 : c ≤ 9223372036854775807 := by unfold maxLen at hcm; omega
  have hG63 : G ≤ 9223372036854775807 := by unfold maxLen at hGm; omega
  have HRZ := Aside0.mk hrz
  have hcA := hcpA 3 (G - i)
  have HCB := Aside0.mk (hcpB 3 (G - (i + 1)) (c - i))
  have hz3 : (c : Int) < (n : Int) + 1 := by omega
  have hGi : ¬ (G = i) := by omega
  have hGim : ¬ (G = i + 1) := by omega
  have hci : ¬ (c = i) := by omega
  have hw1 : IntKind.i64.wrap ((i : Int) + 1) = (i : Int) + 1 := by rw [IntKind.wrap_i64]; omega
  have hbb : (0 : Int) ≤ (i : Int) + 1 := by omega
  have hin : i ≤ n := by omega
  have htn : ((i : Int) + 1).toNat = i + 1 := by omega
  have hb3i : (i : Int) ≤ (n : Int) := by omega
  rw [← hW]
  clear hcells hold hrz hcpA hcpB hb1 hg1 hv1 hb2 hg2 hRl hs2 hb3 hF hRs hRt hW1 hW2 hW3 hROW hG hgW hvW htk hcz hg hW hdl htl hsz hlen h hcm hGm hN hkk hik hWs
  go_enter Tryz.func148, Tryz.ntmps148
  go_wp2_with (at_builtin; refine Lib.wpList_append_run _ rfl _ _ _ _ rfl _ _ rfl rfl _ _ (HRZ.out _) ?_)
  go_still_tail 8, (by kernel_rfl)
  change wpList _ _ _ _ _ W2.drew
  refine wpList_copy_runI _ rfl _ _ 109 109 rfl (.slice (some ⟨N, (i + 1) * 2, none⟩) (n + 1 - (i + 1)) (G - (i + 1))) (.slice (some ⟨g, i * 2, none⟩) (n - i) (c - i)) (by simp [Act.eval, Act.put]) (by simp [Act.eval, Act.put]) HCB.out ?_
  go_wp2
  go_ret
  exact HFin.out
theorem ri_at {base : Nat} {E : TypeId} {K n : Nat} {v : Value} {cells cells' : List Value} {w : World} {e : Ending} {W : World} (h : RowPost base E K v n cells w e W) (he : cells = cells') : RowPost base E K v n cells' w e W := he ▸ h
/-- one element put in anywhere -/
theorem ri_insert_calls (base : Nat) (v : Value) (n i : Nat) (cells cs : List Value) (w : World) (hown : w.ownsRow base 111 2 v n cells) (hc1 : ∀ u ∈ cells, u.oneCell' = true) (hcs : cs.length = 2) (h1 : ∀ u ∈ cs, u.oneCell' = true) (hi : i ≤ n) (hbig : (n + 1) * 16 ≤ 140737488355328) (hbase : base ≤ w.heap.size) :
    Calls Tryz.prog 148 #[v, .int .i64 i, .slice (some ⟨w.heap.size, 0, none⟩) 1 1] (w.alloc (.cells cs.toArray 111)) fun e W' => RowPost base 111 2 v (n + 1) (cells.take (i * 2) ++ cs ++ cells.drop (i * 2)) w e W' := by
  have hlen := hown.1
  by_cases hin : i = n
  · subst hin
    refine (ri_insert_end base v i cells cs w hown hcs h1 hbig hbase).mono (fun e W' h => ri_at h ?_)
    rw [List.take_of_length_le (by omega), List.drop_of_length_le (by omega), List.append_nil]
  · obtain ⟨g, c, rfl⟩ : ∃ g c, v = .slice (some ⟨g, 0, none⟩) n c := by
      rcases hown.2 with ⟨_, h0⟩ | ⟨g, cap, cur, hv, _⟩
      · omega
      · exact ⟨g, cap, hv⟩
    by_cases hr : n + 1 ≤ c
    · exact ri_insert_room base g n c i cells cs w hown hc1 hcs h1 (by omega) hr hbig
    · exact ri_insert_grow base g n c i cells cs w hown hc1 hcs h1 (by omega) (by omega) hbig hbase
end Go.Proofs.YtmmfoeckggpgdaaGreatDoor
set_option linter.unusedSimpArgs false
set_option linter.unusedVariables false
namespace Go.Proofs.YtmmfoeckggpgdaaGreatDoor
open Go.RowKit Go.Lib Go.Proofs.YtmmfoeckggpgdaaGreatDoorW.PrintWords

theorem ei_info : (Tryz.prog.info? 28).map (fun i => (i.zero, i.size, i.bytes)) = some (some (.agg #[.string ⟨#[]⟩, .int .i64 0, .int .i64 0, .int .i64 0, .string ⟨#[]⟩, .string ⟨#[]⟩, .int .i64 0, .string ⟨#[]⟩]), 8, 96) := by kernel_rfl
theorem ei_size (w : World) : (Go.sizeOf 28).run Tryz.prog w = .ok 8 w := by kernel_rfl
theorem ei_apart (w : World) (a b : Addr) (la ca lb cb : Nat) (hne : a.block ≠ b.block) (cA cB : Array Value) (hA : w.heap[a.block]? = some (.cells cA 28 (0, 0))) (hB : w.heap[b.block]? = some (.cells cB 28 (0, 0))) (h0 : cB.size ≠ 0) :
    (callFunc 152 #[.slice (some a) la ca, .slice (some b) lb cb]).run Tryz.prog w = .ok (.value (.bool false)) w := by
  rw [run_callFunc_extern Tryz.func152 (by kernel_rfl) (by kernel_rfl) (by kernel_rfl) (e := Extern.SlicesOverlaps.overlaps #[22, 22] #[4]) (by kernel_rfl),
    Lib.run_overlaps_apart w 22 4 28 Tryz.underlying22 8 (ei_size) a b la ca lb cb hne 28 28 cA.size cB.size (by simp [World.shape?, hA]) (by simp [World.shape?, hB]) h0 (by simp [World.frozen?, hA]) (by simp [World.frozen?, hA])]
  rfl
set_option maxHeartbeats 4000000 in
set_option maxRecDepth 100000 in
/-- at the end -/
theorem ei_insert_end (base : Nat) (v : Value) (n : Nat) (cells cs : List Value) (w : World) (hown : w.ownsRow base 28 8 v n cells) (hcs : cs.length = 8) (h1 : ∀ u ∈ cs, u.oneCell' = true) (hbig : (n + 1) * 96 ≤ 140737488355328) (hbase : base ≤ w.heap.size) :
    Calls Tryz.prog 104 #[v, .int .i64 n, .slice (some ⟨w.heap.size, 0, none⟩) 1 1] (w.alloc (.cells cs.toArray 28)) fun e W' => RowPost base 28 8 v (n + 1) (cells ++ cs) w e W' := by
  obtain ⟨i0, hi0, hz0, hzs, hzb⟩ := info_parts ei_info
  have hown1 := Aside0.mk (hown.alloc (.cells cs.toArray 28))
  have hnew : ∀ j u, cs[j]? = some u → (w.alloc (.cells cs.toArray 28)).cell? ((⟨w.heap.size, 0, none⟩ : Addr).add j) = some u := fun j u hu => by
    rw [add_plain, blk_cell (heap_alloc_new w _) j]
    simpa using hu
  have HN := Aside0.mk hnew
  have F0 := Aside0.mk ((Fr.refl (fun k => v.ownBlock = some k) w).alloc (.cells cs.toArray 28))
  have hval : ∃ A c, v = .slice A n c ∧ n ≤ c ∧ c ≤ maxLen ∧ (A = none → n = 0 ∧ c = 0) ∧ (∀ a, A = some a → ∃ g, a = ⟨g, 0, none⟩) := by
    rcases hown.2 with ⟨rfl, rfl⟩ | ⟨g, cap, cur, rfl, _, _, h3, h4, _⟩
    · exact ⟨none, 0, rfl, Nat.le_refl _, by decide, (fun _ => ⟨rfl, rfl⟩), (fun a h => by cases h)⟩
    · exact ⟨some _, cap, rfl, h3, h4, (fun h => by cases h), (fun a h => by cases h; exact ⟨g, rfl⟩)⟩
  obtain ⟨A, c, rfl, hnc, hcm, hnone, hsome⟩ := hval
  have HNn := Aside0.mk hnone
  have hc63 : c ≤ 9223372036854775807 := by unfold maxLen at hcm; omega
  have HB := Aside0.mk hbase
  have HBig := Aside0.mk hbig
  have HO0 := Aside0.mk hown
  clear hnew hown hnone hcm hbase hbig
  have fin : ∀ (W0 : World), W0 = w.alloc (.cells cs.toArray 28) → True := fun _ _ => trivial
  cases A with
  | none =>
    obtain ⟨rfl, rfl⟩ := HNn.out rfl
    go_enter Tryz.func104, Tryz.ntmps104
    go_wp2_with (at_builtin; refine wpList_append_own_at _ rfl _ _ 22 rfl base 28 i0 (.agg #[.string ⟨#[]⟩, .int .i64 0, .int .i64 0, .int .i64 0, .string ⟨#[]⟩, .string ⟨#[]⟩, .int .i64 0, .string ⟨#[]⟩]) 8 96 Tryz.underlying22 hi0 hz0 hzs hzb rfl (by decide) _ _ _ rfl hown1.out ⟨w.heap.size, 0, none⟩ 1 1 cs rfl (by rw [hcs]) HN.out h1 (by unfold maxLen; have := HBig.out; omega) (by have := HBig.out; omega) (by have := HB.out; simp; omega) ?_)
    intro v' w1 hown' hgrow hnil hloc
    have HR := Aside0.mk (And.intro hown' (And.intro (F0.out.grown hgrow (fun k hk => .inl hk)) hloc))
    clear hown' hgrow hnil hloc
    go_wp2
    go_ret
    refine ⟨v', rfl, HR.out.1, HR.out.2.1, HR.out.2.2.imp id (fun h => ⟨_, h, by omega⟩)⟩
  | some a =>
    obtain ⟨g, rfl⟩ := hsome a rfl
    by_cases hcn : c = n
    all_goals
      go_enter Tryz.func104, Tryz.ntmps104
      go_wp2_with (at_builtin; refine wpList_append_own_at _ rfl _ _ 22 rfl base 28 i0 (.agg #[.string ⟨#[]⟩, .int .i64 0, .int .i64 0, .int .i64 0, .string ⟨#[]⟩, .string ⟨#[]⟩, .int .i64 0, .string ⟨#[]⟩]) 8 96 Tryz.underlying22 hi0 hz0 hzs hzb rfl (by decide) _ _ _ rfl hown1.out ⟨w.heap.size, 0, none⟩ 1 1 cs rfl (by rw [hcs]) HN.out h1 (by unfold maxLen; have := HBig.out; omega) (by have := HBig.out; omega) (by have := HB.out; simp; omega) ?_)
      intro v' w1 hown' hgrow hnil hloc
      have HR := Aside0.mk (And.intro hown' (And.intro (F0.out.grown hgrow (fun k hk => .inl hk)) hloc))
      clear hown' hgrow hnil hloc
      go_wp2
      go_ret
      refine ⟨v', rfl, HR.out.1, HR.out.2.1, HR.out.2.2.imp id (fun h => ⟨_, h, by omega⟩)⟩
set_option maxHeartbeats 4000000 in
set_option maxRecDepth 100000 in
/-- in the midst, where there is room -/
theorem ei_insert_room (base g : Nat) (n c i : Nat) (cells cs : List Value) (w : World) (hown : w.ownsRow base 28 8 (.slice (some ⟨g, 0, none⟩) n c) n cells) (hc1 : ∀ u ∈ cells, u.oneCell' = true) (hcs : cs.length = 8) (h1 : ∀ u ∈ cs, u.oneCell' = true) (hi : i < n) (hroom : n + 1 ≤ c) (hbig : (n + 1) * 96 ≤ 140737488355328) :
    Calls Tryz.prog 104 #[.slice (some ⟨g, 0, none⟩) n c, .int .i64 i, .slice (some ⟨w.heap.size, 0, none⟩) 1 1] (w.alloc (.cells cs.toArray 28)) fun e W' => RowPost base 28 8 (.slice (some ⟨g, 0, none⟩) n c) (n + 1) (cells.take (i * 8) ++ cs ++ cells.drop (i * 8)) w e W' := by
  have hown0 := hown
  obtain ⟨hlen, h⟩ := hown
  obtain ⟨cur, hbg, hg, hcm, hcz, htk⟩ : ∃ cur, base ≤ g ∧ w.heap[g]? = some (.cells cur 28 (0, 0)) ∧ c ≤ maxLen ∧ cur.size = c * 8 ∧ cur.toList.take (n * 8) = cells := by
    rcases h with ⟨h', _⟩ | ⟨g', cap', cur, h', hbg, hg, _, hcm, hcz, htk⟩
    · injection h' with h'; cases h'
    · injection h' with h' _ h''
      injection h' with h'
      injection h' with h'
      subst h' h''
      exact ⟨cur, hbg, hg, hcm, hcz, htk⟩
  have hgl := blk_lt hg
  obtain ⟨W, hW⟩ : ∃ W, W = w.alloc (.cells cs.toArray 28) := ⟨_, rfl⟩
  have hgW : W.heap[g]? = some (.cells cur 28 (0, 0)) := by rw [hW]; exact blk_alloc hg _
  have hvW : W.heap[w.heap.size]? = some (.cells cs.toArray 28 (0, 0)) := by rw [hW]; exact heap_alloc_new w _
  have hcl : cur.toList.length = c * 8 := by simpa using hcz
  have hcells : ∀ j v, cells[j]? = some v → W.cell? ⟨g, j, none⟩ = some v := fun j v hj => by
    rw [blk_cell hgW j]
    rw [← htk, List.getElem?_take] at hj
    split at hj
    · simpa using hj
    · cases hj
  have hsp : ∀ j, j < (n + 1) * 8 → (W.cell? ⟨g, j, none⟩).isSome = true := fun j hj => by
    have hjc : j < cur.size := by rw [hcz]; exact Nat.lt_of_lt_of_le hj (Nat.mul_le_mul_right _ hroom)
    rw [blk_cell hgW j, Array.getElem?_eq_getElem hjc]; rfl
  have hfz : ∀ j, W.frozen? ⟨g, j, none⟩ = false := fun j => blk_frozen hgW j
  have hvs : ∀ j v, cs[j]? = some v → W.cell? ⟨w.heap.size, j, none⟩ = some v := fun j v hj => by
    rw [blk_cell hvW j]; simpa using hj
  have hne : w.heap.size ≠ g := by omega
  have hov : ∀ lb cb o, (callFunc 152 #[.slice (some ⟨w.heap.size, 0, none⟩) 1 1, .slice (some ⟨g, o, none⟩) lb cb]).run Tryz.prog W = .ok (.value (.bool false)) W := fun lb cb o =>
    ei_apart W _ _ _ _ _ _ hne cs.toArray cur hvW hgW (by rw [hcz]; omega)
  have hsz : (Tryz.prog.info? 28).map (·.size) = some 8 := by
    obtain ⟨i0, hi0, _, h1, _⟩ := info_parts ei_info
    rw [hi0]; simp [h1]
  have hdl : (cells.drop (i * 8)).length = (n - i) * 8 := by rw [List.length_drop, hlen]; omega
  have hcp1 : ∀ ty dc sc, (Builtin.copy_ #[22, 22] ty #[.slice (some ⟨g, (i + 1) * 8, none⟩) (n + 1 - (i + 1)) dc, .slice (some ⟨g, i * 8, none⟩) (n + 1 - i) sc]).run Tryz.prog W.drew = .ok (goInt (n - i : Nat)) (W.drew.setCells g ((i + 1) * 8) (cells.drop (i * 8))) := fun ty dc sc =>
    run_copy_cellsK W.drew _ _ ty 28 8 g ((i + 1) * 8) (n + 1 - (i + 1)) dc ⟨g, i * 8, none⟩ (n + 1 - i) sc (cells.drop (i * 8)) (n - i) Tryz.underlying22 hsz (by simp only [Nat.min_def]; split <;> omega) hdl
      (fun j v hj => by rw [Addr.add_lit]; exact hcells (i * 8 + j) v (by rwa [List.getElem?_drop] at hj))
      (fun j hj => hsp _ (by omega)) (fun j hj => hfz _) (fun v hv => hc1 v (List.mem_of_mem_drop hv))
  obtain ⟨W1, hW1⟩ : ∃ W1, W1 = W.drew.setCells g ((i + 1) * 8) (cells.drop (i * 8)) := ⟨_, rfl⟩
  have hb1 : W1.heap[g]? = some (.cells (cur.toList.take ((i + 1) * 8) ++ cells.drop (i * 8) ++ cur.toList.drop ((i + 1) * 8 + (cells.drop (i * 8)).length)).toArray 28 (0, 0)) := by
    rw [hW1]; exact setCells_blk g _ _ _ cur hgW (by rw [hdl, hcz]; omega)
  have hv1 : W1.heap[w.heap.size]? = some (.cells cs.toArray 28 (0, 0)) := by
    rw [hW1]; exact (setCells_fr g _ _ W.drew).blk hvW hne
  rw [← hW1] at hcp1
  have hsz1 : ((cur.toList.take ((i + 1) * 8) ++ cells.drop (i * 8) ++ cur.toList.drop ((i + 1) * 8 + (cells.drop (i * 8)).length)).toArray).size = c * 8 := by
    simp only [List.size_toArray, List.length_append, List.length_take, List.length_drop, hlen, hcl]
    omega
  have hcp2 : ∀ ty dc, (Builtin.copy_ #[22, 22] ty #[.slice (some ⟨g, i * 8, none⟩) (n + 1 - i) dc, .slice (some ⟨w.heap.size, 0, none⟩) 1 1]).run Tryz.prog W1 = .ok (goInt (1 : Nat)) (W1.setCells g (i * 8) cs) := fun ty dc =>
    run_copy_cellsK W1 _ _ ty 28 8 g (i * 8) (n + 1 - i) dc ⟨w.heap.size, 0, none⟩ 1 1 cs 1 Tryz.underlying22 hsz (by simp only [Nat.min_def]; split <;> omega) (by rw [hcs])
      (fun j v hj => by rw [Addr.add_lit, Nat.zero_add, blk_cell hv1 j]; simpa using hj)
      (fun j hj => by rw [blk_cell hb1, Array.getElem?_eq_getElem (by rw [hsz1]; omega)]; rfl) (fun j hj => blk_frozen hb1 _) h1
  have hb2 : (W1.setCells g (i * 8) cs).heap[g]? = some (.cells (cells.take (i * 8) ++ cs ++ cells.drop (i * 8) ++ cur.toList.drop ((n + 1) * 8)).toArray 28 (0, 0)) := by
    have h := setCells_blk g cs (i * 8) W1 _ hb1 (by rw [hsz1, hcs]; omega)
    rw [h]
    congr 3
    have e1 : i * 8 + cs.length = (i + 1) * 8 := by rw [hcs]; omega
    have e2 : (cur.toList.take ((i + 1) * 8)).length = (i + 1) * 8 := by rw [List.length_take, hcl]; omega
    have e3 : (i + 1) * 8 + (cells.drop (i * 8)).length = (n + 1) * 8 := by rw [hdl]; omega
    have e4 : (cur.toList.take ((i + 1) * 8)).take (i * 8) = cells.take (i * 8) := by
      rw [List.take_take, ← htk, List.take_take]
      congr 1
      omega
    simp only [e1, e3, List.append_assoc]
    rw [List.take_append_of_le_length (by rw [e2]; omega), e4, List.drop_left' e2]
  have hF : Fr (fun k => (Value.slice (some ⟨g, 0, none⟩) n c).ownBlock = some k) w (W1.setCells g (i * 8) cs) := by
    have f1 : Fr (fun k => k = g) w W.drew := by rw [hW]; exact ((Fr.refl _ w).alloc _).drew
    have f2 : Fr (fun k => k = g) W.drew W1 := by rw [hW1]; exact setCells_fr g _ _ _
    exact ((f1.then_ f2 (fun _ h => .inl h)).then_ (setCells_fr g cs (i * 8) W1) (fun _ h => .inl h)).mono (fun k _ hk => by rw [hk]; rfl)
  have HFin : Aside0 (RowPost base 28 8 (.slice (some ⟨g, 0, none⟩) n c) (n + 1) (cells.take (i * 8) ++ cs ++ cells.drop (i * 8)) w (.returned (.slice (some ⟨g, 0, none⟩) (n + 1) c)) (W1.setCells g (i * 8) cs)) := ⟨by
    have hll : (cells.take (i * 8) ++ cs ++ cells.drop (i * 8)).length = (n + 1) * 8 := by simp only [List.length_append, List.length_take, List.length_drop, hlen, hcs]; omega
    refine ⟨_, rfl, ⟨hll, .inr ⟨g, c, _, rfl, hbg, hb2, hroom, hcm, ?_, ?_⟩⟩, hF, .inl rfl⟩
    · simp only [List.size_toArray, List.length_append, List.length_take, List.length_drop, hlen, hcs, hcl]; omega
    · rw [List.toList_toArray, List.take_left' hll]⟩
  have HC := Aside0.mk hcp1
  have HC2 := Aside0.mk hcp2
  have hc63 : c ≤ 9223372036854775807 := by unfold maxLen at hcm; omega
  have hbx2 : ¬ (c = i + 1) := by omega
  have hbx4 : ¬ (c = i) := by omega
  rw [← hW]
  have HWd : Aside0 (W1 = W.drew.setCells g ((i + 1) * 8) (cells.drop (i * 8))) := ⟨hW1⟩
  clear hcells hsp hfz hvs hb1 hv1 hsz1 hb2 hF hcp1 hcp2 hW1 hgW hvW htk hcz hcl hg hW hdl hsz hown0 hlen h hcm
  have hin : i ≤ n := by omega
  have hw1 : IntKind.i64.wrap ((i : Int) + 1) = (i : Int) + 1 := by rw [IntKind.wrap_i64]; omega
  have hbb : (0 : Int) ≤ (i : Int) + 1 := by omega
  have htn : ((i : Int) + 1).toNat = i + 1 := by omega
  have hb3 : (i : Int) ≤ (n : Int) + 1 := by omega
  go_enter Tryz.func104, Tryz.ntmps104
  go_wp2_with (simp only [hov])
  go_still_tail 8, (by kernel_rfl)
  change wpList _ _ _ _ _ W.drew
  refine wpList_copy_runI _ rfl _ _ 22 22 rfl (.slice (some ⟨g, (i + 1) * 8, none⟩) (n + 1 - (i + 1)) (c - (i + 1))) (.slice (some ⟨g, i * 8, none⟩) (n + 1 - i) (c - i)) (by simp [Act.eval, Act.put]) (by simp [Act.eval, Act.put]) (HC.out 3 (c - (i + 1)) (c - i)) ?_
  have hc2 := HC2.out 3 (c - i)
  go_wp2
  go_ret
  exact HFin.out
set_option maxHeartbeats 4000000 in
set_option maxRecDepth 100000 in
/-- in the midst, where there is no room: a new row -/
theorem ei_insert_grow (base g : Nat) (n c i : Nat) (cells cs : List Value) (w : World) (hown : w.ownsRow base 28 8 (.slice (some ⟨g, 0, none⟩) n c) n cells) (hc1 : ∀ u ∈ cells, u.oneCell' = true) (hcs : cs.length = 8) (h1 : ∀ u ∈ cs, u.oneCell' = true) (hi : i < n) (hroom : c < n + 1) (hbig : (n + 1) * 96 ≤ 140737488355328) (hbase : base ≤ w.heap.size) :
    Calls Tryz.prog 104 #[.slice (some ⟨g, 0, none⟩) n c, .int .i64 i, .slice (some ⟨w.heap.size, 0, none⟩) 1 1] (w.alloc (.cells cs.toArray 28)) fun e W' => RowPost base 28 8 (.slice (some ⟨g, 0, none⟩) n c) (n + 1) (cells.take (i * 8) ++ cs ++ cells.drop (i * 8)) w e W' := by
  obtain ⟨hlen, h⟩ := hown
  obtain ⟨cur, hg, hncap, hcm, hcz, htk⟩ : ∃ cur, w.heap[g]? = some (.cells cur 28 (0, 0)) ∧ n ≤ c ∧ c ≤ maxLen ∧ cur.size = c * 8 ∧ cur.toList.take (n * 8) = cells := by
    rcases h with ⟨h', _⟩ | ⟨g', cap', cur, h', _, hg, hn, hcm, hcz, htk⟩
    · injection h' with h'; cases h'
    · injection h' with h' _ h''
      injection h' with h'
      injection h' with h'
      subst h' h''
      exact ⟨cur, hg, hn, hcm, hcz, htk⟩
  have hgl := blk_lt hg
  obtain ⟨W, hW⟩ : ∃ W, W = w.alloc (.cells cs.toArray 28) := ⟨_, rfl⟩
  have hWs : W.heap.size = w.heap.size + 1 := by rw [hW]; simp
  have hgW : W.heap[g]? = some (.cells cur 28 (0, 0)) := by rw [hW]; exact blk_alloc hg _
  have hvW : W.heap[w.heap.size]? = some (.cells cs.toArray 28 (0, 0)) := by rw [hW]; exact heap_alloc_new w _
  have hcells : ∀ (V : World), V.heap[g]? = some (.cells cur 28 (0, 0)) → ∀ j v, cells[j]? = some v → V.cell? ⟨g, j, none⟩ = some v := fun V hV j v hj => by
    rw [blk_cell hV j]
    rw [← htk, List.getElem?_take] at hj
    split at hj
    · simpa using hj
    · cases hj
  obtain ⟨i0, hi0, hz0, hzs, hzb⟩ := info_parts ei_info
  have hsz : (Tryz.prog.info? 28).map (·.size) = some 8 := by rw [hi0]; simp [hzs]
  have hdl : (cells.drop (i * 8)).length = (n - i) * 8 := by rw [List.length_drop, hlen]; omega
  have htl : (cells.take (i * 8)).length = i * 8 := by rw [List.length_take, hlen]; omega
  have hkk : (n : Int) + 1 - (i : Int) = ((n + 1 - i : Nat) : Int) := by omega
  have hik : i + (n + 1 - i) = n + 1 := by omega
  have hold : (Builtin.firstCells i0.size i (.slice (some ⟨g, 0, none⟩) i c)).run Tryz.prog W.drew = .ok (cells.take (i * 8)).toArray W.drew := by
    rw [hzs]
    exact run_firstCells_some W.drew 8 i ⟨g, 0, none⟩ i c (cells.take (i * 8)) htl (fun j v hj => by
      rw [Addr.add_lit, Nat.zero_add]
      rw [List.getElem?_take] at hj
      split at hj
      · exact hcells W.drew hgW j v hj
      · cases hj)
  obtain ⟨G, hG⟩ : ∃ G, G = grownCap W (n + 1) c 28 := ⟨_, rfl⟩
  obtain ⟨ROW, hROW⟩ : ∃ ROW : Array Value, ROW = (cells.take (i * 8)).toArray ++ Builtin.zeroCells (.agg #[.string ⟨#[]⟩, .int .i64 0, .int .i64 0, .int .i64 0, .string ⟨#[]⟩, .string ⟨#[]⟩, .int .i64 0, .string ⟨#[]⟩] : Value).cells (n + 1 - i) ++ Builtin.zeroCells (.agg #[.string ⟨#[]⟩, .int .i64 0, .int .i64 0, .int .i64 0, .string ⟨#[]⟩, .string ⟨#[]⟩, .int .i64 0, .string ⟨#[]⟩] : Value).cells (G - (n + 1)) := ⟨_, rfl⟩
  have hrz : ∀ ty, (Builtin.append_ #[22, 3] ty #[.slice (some ⟨g, 0, none⟩) i c, .int .i64 ((n : Int) + 1 - (i : Int))]).run Tryz.prog W = .ok (.slice (some ⟨W.heap.size, 0, none⟩) (n + 1) G) (W.drew.alloc (.cells ROW 28)) := fun ty => by
    have h := Lib.run_append_grow_zeros W 22 3 ty 28 i0 _ .i64 .i64 Tryz.underlying22 Tryz.underlying3 hi0 hz0 (some ⟨g, 0, none⟩) i c (cells.take (i * 8)) hold (n + 1 - i) (by omega) (by omega) (by omega) (by omega) (by rw [hzb]; omega) (by rw [hzb, hik]; exact growslice_fits hroom hbig)
    rw [hik, ← hG, ← hROW] at h
    rw [hkk]
    exact h
  have hGn : n + 1 ≤ G := by rw [hG]; exact grownCap_ge W _ _ _
  have hGm : G ≤ maxLen := by rw [hG]; exact grownCap_le_maxLen W (n + 1) c 28 (by unfold maxLen; omega)
  have hRs : ROW.size = G * 8 := by
    rw [hROW]
    simp only [Array.size_append, List.size_toArray, htl, Builtin.zeroCells, Value.cells]
    simp
    omega
  have hRt : ROW.toList.take (i * 8) = cells.take (i * 8) := by
    rw [hROW]
    simp only [Array.toList_append, List.append_assoc]
    exact List.take_left' (by simp [htl])
  obtain ⟨N, hN⟩ : ∃ N, N = W.heap.size := ⟨_, rfl⟩
  obtain ⟨W1, hW1⟩ : ∃ W1, W1 = W.drew.alloc (.cells ROW 28) := ⟨_, rfl⟩
  rw [← hW1, ← hN] at hrz
  have hb1 : W1.heap[N]? = some (.cells ROW 28 (0, 0)) := by rw [hW1, hN]; exact heap_alloc_new W.drew _
  have hg1 : W1.heap[g]? = some (.cells cur 28 (0, 0)) := by rw [hW1]; exact blk_alloc (w := W.drew) hgW _
  have hv1 : W1.heap[w.heap.size]? = some (.cells cs.toArray 28 (0, 0)) := by rw [hW1]; exact blk_alloc (w := W.drew) hvW _
  have hvN : w.heap.size ≠ N := by omega
  have hgN : g ≠ N := by omega
  have hcpA : ∀ ty dc, (Builtin.copy_ #[22, 22] ty #[.slice (some ⟨N, i * 8, none⟩) (n + 1 - i) dc, .slice (some ⟨w.heap.size, 0, none⟩) 1 1]).run Tryz.prog W1 = .ok (goInt (1 : Nat)) (W1.setCells N (i * 8) cs) := fun ty dc =>
    run_copy_cellsK W1 _ _ ty 28 8 N (i * 8) (n + 1 - i) dc ⟨w.heap.size, 0, none⟩ 1 1 cs 1 Tryz.underlying22 hsz (by simp only [Nat.min_def]; split <;> omega) (by rw [hcs])
      (fun j v hj => by rw [Addr.add_lit, Nat.zero_add, blk_cell hv1 j]; simpa using hj)
      (fun j hj => by rw [blk_cell hb1, Array.getElem?_eq_getElem (by rw [hRs]; omega)]; rfl) (fun j hj => blk_frozen hb1 _) h1
  obtain ⟨W2, hW2⟩ : ∃ W2, W2 = W1.setCells N (i * 8) cs := ⟨_, rfl⟩
  rw [← hW2] at hcpA
  have hb2 : W2.heap[N]? = some (.cells (ROW.toList.take (i * 8) ++ cs ++ ROW.toList.drop (i * 8 + cs.length)).toArray 28 (0, 0)) := by
    rw [hW2]; exact setCells_blk N cs (i * 8) W1 ROW hb1 (by rw [hRs, hcs]; omega)
  have hg2 : W2.heap[g]? = some (.cells cur 28 (0, 0)) := by rw [hW2]; exact (setCells_fr N _ _ W1).blk hg1 hgN
  have hRl : ROW.toList.length = G * 8 := by simpa using hRs
  have hs2 : ((ROW.toList.take (i * 8) ++ cs ++ ROW.toList.drop (i * 8 + cs.length)).toArray).size = G * 8 := by
    simp only [List.size_toArray, List.length_append, List.length_take, List.length_drop, hRl, hcs]
    omega
  have hcpB : ∀ ty dc sc, (Builtin.copy_ #[22, 22] ty #[.slice (some ⟨N, (i + 1) * 8, none⟩) (n + 1 - (i + 1)) dc, .slice (some ⟨g, i * 8, none⟩) (n - i) sc]).run Tryz.prog W2.drew = .ok (goInt (n - i : Nat)) (W2.drew.setCells N ((i + 1) * 8) (cells.drop (i * 8))) := fun ty dc sc =>
    run_copy_cellsK W2.drew _ _ ty 28 8 N ((i + 1) * 8) (n + 1 - (i + 1)) dc ⟨g, i * 8, none⟩ (n - i) sc (cells.drop (i * 8)) (n - i) Tryz.underlying22 hsz (by simp only [Nat.min_def]; split <;> omega) hdl
      (fun j v hj => by rw [Addr.add_lit]; exact hcells W2.drew hg2 (i * 8 + j) v (by rwa [List.getElem?_drop] at hj))
      (fun j hj => by rw [blk_cell (w := W2.drew) hb2, Array.getElem?_eq_getElem (by rw [hs2]; omega)]; rfl) (fun j hj => blk_frozen (w := W2.drew) hb2 _) (fun v hv => hc1 v (List.mem_of_mem_drop hv))
  obtain ⟨W3, hW3⟩ : ∃ W3, W3 = W2.drew.setCells N ((i + 1) * 8) (cells.drop (i * 8)) := ⟨_, rfl⟩
  have hb3 : W3.heap[N]? = some (.cells (cells.take (i * 8) ++ cs ++ cells.drop (i * 8) ++ ROW.toList.drop ((n + 1) * 8)).toArray 28 (0, 0)) := by
    have h := setCells_blk N (cells.drop (i * 8)) ((i + 1) * 8) W2.drew _ hb2 (by rw [hs2, hdl]; omega)
    rw [hW3, h]
    congr 3
    have e0 : (cells.take (i * 8) ++ cs).length = (i + 1) * 8 := by rw [List.length_append, htl, hcs]; omega
    have e3 : (i + 1) * 8 + (cells.drop (i * 8)).length = (n + 1) * 8 := by rw [hdl]; omega
    have e4 : i * 8 + cs.length = (i + 1) * 8 := by rw [hcs]; omega
    simp only [e3, e4, hRt]
    rw [List.take_left' e0, show (n + 1) * 8 = (cells.take (i * 8) ++ cs).length + (n - i) * 8 by rw [e0]; omega, List.drop_length_add_append, List.drop_drop, e0]
    try (congr 2; omega)
  rw [← hW3] at hcpB
  have hF : Fr (fun k => (Value.slice (some ⟨g, 0, none⟩) n c).ownBlock = some k) w W3 := by
    have f0 : Fr (fun k => (Value.slice (some ⟨g, 0, none⟩) n c).ownBlock = some k) w W1 := by rw [hW1, hW]; exact (((Fr.refl _ w).alloc _).drew).alloc _
    have f2 : Fr (fun k => k = N) W1 W2 := by rw [hW2]; exact setCells_fr N _ _ _
    have f3 : Fr (fun k => k = N) W2.drew W3 := by rw [hW3]; exact setCells_fr N _ _ _
    exact (f0.then_ f2 (fun k hk => .inr (by omega))).drew.then_ f3 (fun k hk => .inr (by omega))
  have HFin : Aside0 (RowPost base 28 8 (.slice (some ⟨g, 0, none⟩) n c) (n + 1) (cells.take (i * 8) ++ cs ++ cells.drop (i * 8)) w (.returned (.slice (some ⟨N, 0, none⟩) (n + 1) G)) W3) := ⟨by
    have hll : (cells.take (i * 8) ++ cs ++ cells.drop (i * 8)).length = (n + 1) * 8 := by simp only [List.length_append, hdl, htl, hcs]; omega
    refine ⟨_, rfl, ⟨hll, .inr ⟨N, G, _, rfl, by omega, hb3, hGn, hGm, ?_, ?_⟩⟩, hF, .inr ⟨N, rfl, by omega⟩⟩
    · simp only [List.size_toArray, List.length_append, List.length_drop, hdl, htl, hcs, hRl]; omega
    · rw [List.toList_toArray, List.take_left' hll]⟩
  have hc63 : c ≤ 9223372036854775807 := by unfold maxLen at hcm; omega
  have hG63 : G ≤ 9223372036854775807 := by unfold maxLen at hGm; omega
  have HRZ := Aside0.mk hrz
  have hcA := hcpA 3 (G - i)
  have HCB := Aside0.mk (hcpB 3 (G - (i + 1)) (c - i))
  have hz3 : (c : Int) < (n : Int) + 1 := by omega
  have hGi : ¬ (G = i) := by omega
  have hGim : ¬ (G = i + 1) := by omega
  have hci : ¬ (c = i) := by omega
  have hw1 : IntKind.i64.wrap ((i : Int) + 1) = (i : Int) + 1 := by rw [IntKind.wrap_i64]; omega
  have hbb : (0 : Int) ≤ (i : Int) + 1 := by omega
  have hin : i ≤ n := by omega
  have htn : ((i : Int) + 1).toNat = i + 1 := by omega
  have hb3i : (i : Int) ≤ (n : Int) := by omega
  rw [← hW]
  clear hcells hold hrz hcpA hcpB hb1 hg1 hv1 hb2 hg2 hRl hs2 hb3 hF hRs hRt hW1 hW2 hW3 hROW hG hgW hvW htk hcz hg hW hdl htl hsz hlen h hcm hGm hN hkk hik hWs
  go_enter Tryz.func104, Tryz.ntmps104
  go_wp2_with (at_builtin; refine Lib.wpList_append_run _ rfl _ _ _ _ rfl _ _ rfl rfl _ _ (HRZ.out _) ?_)
  go_still_tail 8, (by kernel_rfl)
  change wpList _ _ _ _ _ W2.drew
  refine wpList_copy_runI _ rfl _ _ 22 22 rfl (.slice (some ⟨N, (i + 1) * 8, none⟩) (n + 1 - (i + 1)) (G - (i + 1))) (.slice (some ⟨g, i * 8, none⟩) (n - i) (c - i)) (by simp [Act.eval, Act.put]) (by simp [Act.eval, Act.put]) HCB.out ?_
  go_wp2
  go_ret
  exact HFin.out
theorem ei_at {base : Nat} {E : TypeId} {K n : Nat} {v : Value} {cells cells' : List Value} {w : World} {e : Ending} {W : World} (h : RowPost base E K v n cells w e W) (he : cells = cells') : RowPost base E K v n cells' w e W := he ▸ h
/-- one element put in anywhere -/
theorem ei_insert_calls (base : Nat) (v : Value) (n i : Nat) (cells cs : List Value) (w : World) (hown : w.ownsRow base 28 8 v n cells) (hc1 : ∀ u ∈ cells, u.oneCell' = true) (hcs : cs.length = 8) (h1 : ∀ u ∈ cs, u.oneCell' = true) (hi : i ≤ n) (hbig : (n + 1) * 96 ≤ 140737488355328) (hbase : base ≤ w.heap.size) :
    Calls Tryz.prog 104 #[v, .int .i64 i, .slice (some ⟨w.heap.size, 0, none⟩) 1 1] (w.alloc (.cells cs.toArray 28)) fun e W' => RowPost base 28 8 v (n + 1) (cells.take (i * 8) ++ cs ++ cells.drop (i * 8)) w e W' := by
  have hlen := hown.1
  by_cases hin : i = n
  · subst hin
    refine (ei_insert_end base v i cells cs w hown hcs h1 hbig hbase).mono (fun e W' h => ei_at h ?_)
    rw [List.take_of_length_le (by omega), List.drop_of_length_le (by omega), List.append_nil]
  · obtain ⟨g, c, rfl⟩ : ∃ g c, v = .slice (some ⟨g, 0, none⟩) n c := by
      rcases hown.2 with ⟨_, h0⟩ | ⟨g, cap, cur, hv, _⟩
      · omega
      · exact ⟨g, cap, hv⟩
    by_cases hr : n + 1 ≤ c
    · exact ei_insert_room base g n c i cells cs w hown hc1 hcs h1 (by omega) hr hbig
    · exact ei_insert_grow base g n c i cells cs w hown hc1 hcs h1 (by omega) (by omega) hbig hbase
end Go.Proofs.YtmmfoeckggpgdaaGreatDoor
