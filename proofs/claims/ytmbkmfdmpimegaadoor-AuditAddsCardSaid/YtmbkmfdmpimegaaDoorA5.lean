/-
  The walks of Chain.last and Chain.Add.
-/
import Derived.Test.YtmbkmfdmpimegaaDoorA4
namespace Go.Proofs.YtmbkmfdmpimegaaDoor
open Go.RowKit Go.Lib Go.Sort Go.Proofs.YtmbkmfdmpimegaaDoorW.PrintWords Go.Proofs.YtmbkmfdmpimegaaDoor.PR

/-- a chain in block g, its entries' row v; the blocks of ok alone lie in it -/
structure Chain (base : Nat) (ok : Nat → Prop) (w : World) (g : Nat) (v : Value) (seed : Int) (es : List S30) : Prop where
  blk : w.heap[g]? = some (.cells #[.int .u64 seed, v] 52 (0, 0))
  row : k30.R 33 w base ok v es
  ge : base ≤ g
  nok : ¬ ok g
/-- the blocks that a chain writes -/
def chS (g : Nat) (v : Value) : Nat → Prop := fun k => k = g ∨ v.ownBlock = some k
theorem Chain.fr {base : Nat} {ok : Nat → Prop} {w W : World} {g : Nat} {v : Value} {seed : Int} {es : List S30} {S : Nat → Prop} (h : Chain base ok w g v seed es) (hf : Fr S w W) (hg : ¬ S g) (hs : ∀ k, base ≤ k → k < w.heap.size → ok k → ¬ S k) : Chain base ok W g v seed es :=
  ⟨hf.blk h.blk hg, R_fr h.row hf hs, h.ge, h.nok⟩
theorem Chain.mono {base : Nat} {ok ok' : Nat → Prop} {w : World} {g : Nat} {v : Value} {seed : Int} {es : List S30} (h : Chain base ok w g v seed es) (hs : ∀ k, ok k → ok' k) (hn : ¬ ok' g) : Chain base ok' w g v seed es :=
  ⟨h.blk, Kd.R_mono h.row hs, h.ge, hn⟩
theorem Chain.below {base : Nat} {ok : Nat → Prop} {w W : World} {g : Nat} {v : Value} {seed : Int} {es : List S30} (h : Chain base ok w g v seed es) (hb : Below w.heap.size w W) : Chain base ok W g v seed es :=
  h.fr (Fr.of_below hb nob) (fun h => h) (fun _ _ _ _ h => h)

/-- the sum on which the next entry is made -/
def lastS (seed : Int) (es : List S30) : Int := if es.length = 0 then seed else (es.getD (es.length - 1) z30).f4

theorem ent_get {w : World} {ad : Addr} {es : List S30} (h : Kd.C k30 w (some ad) es.length es) (k : Nat) (hk : k < es.length) :
    ∃ A c, w.cell? (ad.add (k * 5)) = some (.int .i64 es[k].f0) ∧ w.cell? ⟨(ad.add (k * 5)).block, (ad.add (k * 5)).off + 1, none⟩ = some (.int .i64 es[k].f1) ∧ w.cell? ⟨(ad.add (k * 5)).block, (ad.add (k * 5)).off + 2, none⟩ = some (.string es[k].f2) ∧
      w.cell? ⟨(ad.add (k * 5)).block, (ad.add (k * 5)).off + 3, none⟩ = some (.slice A es[k].f3.length c) ∧ w.cell? ⟨(ad.add (k * 5)).block, (ad.add (k * 5)).off + 4, none⟩ = some (.int .u64 es[k].f4) ∧ es[k].f3.length ≤ c ∧ Kd.string.C w A es[k].f3.length es[k].f3 := by
  obtain ⟨ad', A, c, e, h0, h1, h2, h3, h4, hl, hC⟩ := at_T30 h (k : Int) (by omega) (by omega)
  obtain rfl : ad = ad' := by injection e
  have hr : rd_T30 es (k : Int) = es[k] := by simp [rd_T30, List.getD, hk]
  rw [hr] at h0 h1 h2 h3 h4 hl hC
  simp only [Int.toNat_natCast] at h0 h1 h2 h3 h4
  exact ⟨A, c, h0, h1, h2, h3, h4, hl, hC⟩

set_option maxRecDepth 100000 in
theorem last_calls {base : Nat} {ok : Nat → Prop} (g : Nat) (v : Value) (seed : Int) (es : List S30) (w : World) (h : Chain base ok w g v seed es) :
    Calls Tryd.prog 28 #[.pointer (some ⟨g, 0, none⟩)] w fun e w' => e = .returned (.int .u64 (lastS seed es)) ∧ w' = w := by
  obtain ⟨A, c, rfl, hl, hC⟩ := Kd.R_reads h.row
  obtain ⟨p0, p1, ps⟩ := two h.blk
  have hm := hC.2.1
  have HC := Aside0.mk hC
  have H := Aside0.mk h
  clear h hC
  by_cases hn : 0 < es.length
  · cases A with
    | none => obtain ⟨ad, e, _⟩ := HC.out.2.2 hn; cases e
    | some ad =>
      obtain ⟨A3, c3, h0, h1, h2, h3, h4, _, _⟩ := ent_get HC.out (es.length - 1) (by omega)
      go_enter Tryd.func28, Tryd.ntmps28
      go_wp2
      go_ret
      exact ⟨ret_int (by unfold lastS; rw [if_neg (by omega), List.getD_eq_getElem?_getD, List.getElem?_eq_getElem (by omega)]; rfl), rfl⟩
  · go_enter Tryd.func28, Tryd.ntmps28
    go_wp2
    go_ret
    exact ⟨ret_int (by unfold lastS; rw [if_pos (by omega)]), rfl⟩

theorem ownB (A : Option Addr) (n m c c' : Nat) : (Value.slice A n c).ownBlock = (Value.slice A m c').ownBlock := by cases A <;> rfl
theorem info33 : (Tryd.prog.info? 33).map (fun i => (i.zero, i.size, i.bytes)) = some (some (.agg #[(.int .i64 0), (.int .i64 0), (.string ⟨#[]⟩), (.slice none 0 0), (.int .u64 0)]), 5, 64) := by kernel_rfl

/-- what an addition comes to: the entry, the entries -/
def addE (seed : Int) (es : List S30) (o n : Int) (p : ByteArray) (is : List ByteArray) : S30 × List S30 :=
  if mayE o n p is = true then (⟨o, n, p, is, sumE (lastS seed es) o n p is⟩, es ++ [⟨o, n, p, is, sumE (lastS seed es) o n p is⟩]) else (z30, es)

set_option maxRecDepth 100000 in
set_option maxHeartbeats 2000000 in
theorem add_calls {base : Nat} {ok : Nat → Prop} (g : Nat) (v : Value) (seed : Int) (es : List S30) (o n : Int) (p : ByteArray) (A : Option Addr) (c : Nat) (is : List ByteArray) (w : World) (h : Chain base ok w g v seed es)
    (hr : Kd.C Kd.string w A is.length is) (ht : Tab w) (hl : is.length ≤ 1000000) (hes : es.length ≤ 1000000) (hsz : ∀ s ∈ is, s.size ≤ 9223372036854775807) (hp : p.size ≤ 9223372036854775807) (hfresh : ∀ k, w.heap.size ≤ k → ok k) (hbase : base ≤ w.heap.size) :
    Calls Tryd.prog 12 #[.pointer (some ⟨g, 0, none⟩), .int .i64 o, .int .i64 n, .string p, .slice A is.length c] w fun e w' =>
      EntRet w (addE seed es o n p is).1 e w' ∧ Fr (chS g v) w w' ∧ ∃ v1, Chain base ok w' g v1 seed (addE seed es o n p is).2 ∧ (v1.ownBlock = v.ownBlock ∨ ∃ b, v1.ownBlock = some b ∧ w.heap.size ≤ b) := by
  have HR := Aside0.mk hr
  have HT := Aside0.mk ht
  have HS := Aside0.mk hsz
  have HFr := Aside0.mk hfresh
  have H := Aside0.mk h
  clear hr ht hsz hfresh h
  have gs := blk_lt H.out.blk
  go_enter Tryd.func12, Tryd.ntmps12
  go_wp2_with fail
  refine (clone_row A c is _ (Kd.C_below HR.out (below_alloc (Below.refl _ _) _)) (by omega)).mono ?_
  rintro e w1 ⟨v', rfl, hR, hb⟩
  obtain ⟨A1, c1, rfl⟩ := Kd.R_slice hR
  have b1 := blk_below (heap_alloc_new w _) hb
  have HR1 := Aside0.mk hR
  have B1 := Aside0.mk b1
  have HB := Aside0.mk ((below_alloc (Below.refl w.heap.size w) _).trans (hb.mono (by simp)))
  clear hR hb b1
  go_wp2_with fail
  have HC1 := Aside0.mk (Kd.C_alloc (by obtain ⟨A1', c1', e, hl', hC⟩ := Kd.R_reads HR1.out; injection e with e1 _ e2; subst e1; exact hC : Kd.C Kd.string w1 A1 is.length is) (.cells #[.int .i64 o, .int .i64 n, .string p, .slice A1 is.length c1, .int .u64 0] 33))
  refine (mayE_calls o n p A1 c1 is 0 _ HC1.out).mono ?_
  rintro e w2 ⟨rfl, hb2⟩
  have B2 := Aside0.mk (blk_below (blk_alloc B1.out _) hb2)
  have B3 := Aside0.mk (blk_below (heap_alloc_new w1 _) hb2)
  have HB2 := Aside0.mk ((below_alloc HB.out (.cells #[.int .i64 o, .int .i64 n, .string p, .slice A1 is.length c1, .int .u64 0] 33)).trans (hb2.mono (Nat.le_trans HB.out.size (by simp))))
  have HC2 := Aside0.mk (Kd.C_below HC1.out hb2)
  have hws : w.heap.size < w1.heap.size := blk_lt B1.out
  have hb2' := Aside0.mk ((below_alloc (Below.refl w1.heap.size w1) (.cells #[.int .i64 o, .int .i64 n, .string p, .slice A1 is.length c1, .int .u64 0] 33)).trans (hb2.mono (by simp)))
  clear hb2
  cases hm : mayE o n p is with
  | false =>
    have HM := Aside0.mk hm
    clear hm
    obtain ⟨p0, p1, p2, p3, p4, ps⟩ := five B2.out
    have f1 := blk_frozen B2.out
    go_wp2
    have hb2z := hb2'.out
    refine bodyPost_ret (v := entV z30 (.slice none 0 0)) (results_cell_row Tryd.results12 _ _ w.heap.size 33 _ (0, 0) _ rfl (set5_blk B2.out (.int .i64 0) (.int .i64 0) (.string ⟨#[]⟩) (.slice none 0 0) (.int .u64 0)) Tryd.underlying33 rfl (by kernel_rfl)) rfl ⟨?_, ?_, ?_⟩
    · rw [addE, if_neg (by rw [HM.out]; simp)]
      exact ⟨_, rfl, Kd.R_nil _ _ _ _ _⟩
    · exact (Fr.of_below HB2.out _).then_ (set5_fr w2 w.heap.size _ _ _ _ _) (fun k hk => .inr (by rw [hk]; exact Nat.le_refl _))
    · rw [addE, if_neg (by rw [HM.out]; simp)]
      exact ⟨v, H.out.fr ((Fr.of_below HB2.out nob).then_ (set5_fr w2 w.heap.size _ _ _ _ _) (fun k hk => .inr (by rw [hk]; exact Nat.le_refl _))) (fun h => h) (fun _ _ _ _ h => h), .inl rfl⟩
  | true =>
    have HM := Aside0.mk hm
    clear hm
    obtain ⟨q0, q1, q2, q3, q4, qs⟩ := five B3.out
    have f2 := blk_frozen B3.out
    have HCh := Aside0.mk ((H.out.below HB2.out))
    have hmm : 0 ≤ o ∧ o ≤ 1048576 ∧ 0 ≤ n ∧ n ≤ 1099511627776 ∧ is.length ≤ 1000 := by
      have := HM.out
      simp [mayE] at this
      omega
    have HMM := Aside0.mk hmm
    clear hmm
    go_wp2_with fail
    go_region_with (first | (go_at_call 28; refine (last_calls g v seed es _ (HCh.out.below (below_drew (Below.refl _ _)))).mono ?_; (rintro e w' ⟨rfl, rfl⟩)) | (go_at_call 27; refine (sumE_calls o n p A1 c1 is 0 _ _ (Kd.C_drew HC2.out) (HT.out.below (below_drew HB2.out)) (by have := HMM.out; omega) (by have := HMM.out; omega) (by have := HMM.out; omega) (by have := HMM.out; omega) (by have := HMM.out; omega) HS.out hp).mono ?_; (rintro e w3 ⟨rfl, hb3⟩); have B4 := blk_below (blk_drew B3.out) hb3; obtain ⟨r0, r1, r2, r3, r4, rs⟩ := five B4; have f3 := blk_frozen B4; have HB3 := Aside0.mk hb3; clear hb3; have B4 := Aside0.mk B4))
    all_goals
      have F3 := ((Fr.of_below HB2.out nob).drew.below HB3.out).setCell (p := ⟨w1.heap.size, 4, none⟩) (.inr (by exact HB.out.size)) (.int .u64 (sumE (lastS seed es) o n p is))
      have C4 := H.out.fr F3 (fun h => h) (fun _ _ _ _ h => h)
      have E4 := blk_set B4.out 4 (.int .u64 (sumE (lastS seed es) o n p is))
      have Z4 := blk_far (blk_below (blk_drew B2.out) HB3.out) (p := ⟨w1.heap.size, 4, none⟩) (by simp; omega) (.int .u64 (sumE (lastS seed es) o n p is))
      have G4 : Fr (one w1.heap.size) w1 (w3.setCell ⟨w1.heap.size, 4, none⟩ (.int .u64 (sumE (lastS seed es) o n p is))) := (((Fr.of_below hb2'.out (one w1.heap.size)).drew.below HB3.out).setCell (p := ⟨w1.heap.size, 4, none⟩) (.inl rfl) _)
      obtain ⟨W4, e4⟩ : ∃ W4, W4 = w3.setCell ⟨w1.heap.size, 4, none⟩ (.int .u64 (sumE (lastS seed es) o n p is)) := ⟨_, rfl⟩
      rw [← e4] at F3 C4 E4 Z4 G4 ⊢
      have M4 := Kd.R_lower (base' := w.heap.size + 1) (ok := fun k => k ≠ w1.heap.size) (R_fr (Kd.R_mono (Kd.R_bound HR1.out) (fun k hk => by have := hk.2.2.1; omega)) G4 (fun k _ _ h => h)) (by simp)
      clear e4 r0 r1 r2 r3 r4 rs f3 B4 HB3 q0 q1 q2 q3 q4 qs f2
      obtain ⟨p0, p1, ps⟩ := two C4.blk
      have f1 := blk_frozen C4.blk
      obtain ⟨q0, q1, q2, q3, q4, qs⟩ := five E4
      have f2 := blk_frozen E4
      have F3 := Aside0.mk F3
      have C4 := Aside0.mk C4
      have E4 := Aside0.mk E4
      have Z4 := Aside0.mk Z4
      have M4 := Aside0.mk M4
      clear G4
      have hM : Aside0 (k30.M W4.drew base (fun k => w.heap.size + 1 ≤ k) ⟨o, n, p, is, sumE (lastS seed es) o n p is⟩ [.int .i64 o, .int .i64 n, .string p, .slice A1 is.length c1, .int .u64 (sumE (lastS seed es) o n p is)]) :=
        ⟨k30_mkM _ _ _ _ (Kd.R_drew (Kd.R_lower (Kd.R_mono (Kd.R_bound M4.out) (fun _ hk => hk.2.1)) (by omega)))⟩
      have hV : Aside0 (∀ k, w.heap.size + 1 ≤ k → (ok k ∧ k ≠ w.heap.size) ∧ some k ≠ v.ownBlock) := by
        obtain ⟨_, inner, ho, _⟩ := H.out.row
        exact ⟨fun k hk => ⟨⟨HFr.out k (by omega), by omega⟩, fun e => by have := own_lt ho k e.symm; omega⟩⟩
      have hF4 : Aside0 (∀ k, W4.drew.heap.size ≤ k → ok k ∧ k ≠ w.heap.size) := ⟨fun k hk => ⟨HFr.out k (Nat.le_trans F3.out.size hk), by have h1 : w.heap.size < W4.heap.size := blk_lt Z4.out; have h2 : W4.heap.size ≤ k := hk; omega⟩⟩
      have hR4 : Aside0 (k30.R 33 W4.drew base (fun k => ok k ∧ k ≠ w.heap.size) v es) := ⟨Kd.R_drew (R_fr (ok := fun k => ok k ∧ k ≠ w.heap.size) (Kd.R_mono (Kd.R_bound H.out.row) (fun k hk => ⟨hk.1, by have := hk.2.2.1; omega⟩)) F3.out (fun _ _ _ _ h => h))⟩
      have hb4 : Aside0 (base ≤ W4.drew.heap.size) := ⟨Nat.le_trans hbase F3.out.size⟩
      have hl4 : Aside0 ((es.length + 1) * 64 ≤ 140737488355328) := ⟨by omega⟩
      have hgv : Aside0 (some g ≠ v.ownBlock) := ⟨fun e => H.out.nok (H.out.row.1 g e.symm)⟩
      go_wp2_with fail
      go_region_law (refine Kd.R_append_step k30 (w0 := W4.drew) (W := W4.drew) base rfl _ _ 37 33 _ 64 rfl Tryd.underlying37 info33 rfl (by decide) (by decide) v es ⟨o, n, p, is, sumE (lastS seed es) o n p is⟩ [.int .i64 o, .int .i64 n, .string p, .slice A1 is.length c1, .int .u64 (sumE (lastS seed es) o n p is)] (fun k => ok k ∧ k ≠ w.heap.size) (fun k => w.heap.size + 1 ≤ k) (by simp [Act.eval]) (by simp [Act.eval]) hM.out hV.out hF4.out hR4.out (Below.refl _ _) hb4.out hl4.out ?_; intro v1 w5 hR5 _hb5 hg5 hat5; obtain ⟨A5, c5, rfl⟩ := Kd.R_slice hR5; have B5 := blk_grown (blk_drew C4.out.blk) hg5 hgv.out; obtain ⟨s0, s1, ss⟩ := two B5; have fs := blk_frozen B5; have B5 := Aside0.mk B5; have hR5 := Aside0.mk hR5; have hg5 := Aside0.mk hg5; have hat5 := Aside0.mk hat5; clear _hb5)
      all_goals
        have hvlt : ∀ k, v.ownBlock = some k → k < w.heap.size := by
          obtain ⟨_, inner, ho, _⟩ := H.out.row
          exact fun k hk => own_lt ho k hk
        have E6 := blk_far (blk_grown (blk_drew E4.out) hg5.out (fun e => by have := hvlt _ e.symm; omega)) (p := ⟨g, 1, none⟩) (by simp; omega) (.slice A5 (es.length + 1) c5)
        have Z6 := blk_far (blk_grown (blk_drew Z4.out) hg5.out (fun e => by have := hvlt _ e.symm; omega)) (p := ⟨g, 1, none⟩) (by simp; omega) (.slice A5 (es.length + 1) c5)
        have F6 := (((F3.out.mono (S2 := chS g v) (fun k _ h => h.elim)).drew.grown hg5.out (fun k hk => .inl (.inr hk))).setCell (p := ⟨g, 1, none⟩) (.inl (.inl rfl)) (.slice A5 (es.length + 1) c5))
        have C6 : Chain base (fun k => ok k ∧ k ≠ w.heap.size) (w5.setCell ⟨g, 1, none⟩ (.slice A5 (es.length + 1) c5)) g (.slice A5 (es.length + 1) c5) seed (es ++ [⟨o, n, p, is, sumE (lastS seed es) o n p is⟩]) :=
          ⟨blk_set B5.out 1 _, Kd.R_far (p := ⟨g, 1, none⟩) (by simpa using hR5.out) (fun k hk e => H.out.nok (by have e' : k = g := e; rw [← e']; exact hk.1)) _, H.out.ge, fun h => H.out.nok h.1⟩
        have G6 : Fr (chS g v) W4 (w5.setCell ⟨g, 1, none⟩ (.slice A5 (es.length + 1) c5)) := (((Fr.refl (chS g v) W4).drew.grown hg5.out (fun k hk => .inl (.inr hk))).setCell (p := ⟨g, 1, none⟩) (.inl (.inl rfl)) _)
        have M6 := R_fr M4.out G6 (fun k hk _ _ h => by rcases h with h | h; omega; have := hvlt _ h; omega)
        obtain ⟨w6, e6⟩ : ∃ w6, w6 = w5.setCell ⟨g, 1, none⟩ (.slice A5 (es.length + 1) c5) := ⟨_, rfl⟩
        rw [← e6] at E6 Z6 F6 C6 M6 ⊢
        clear e6 G6 p0 p1 ps f1 q0 q1 q2 q3 q4 qs f2 s0 s1 ss fs B5
        obtain ⟨q0, q1, q2, q3, q4, qs⟩ := five E6
        have f2 := blk_frozen E6
        have E6 := Aside0.mk E6
        have Z6 := Aside0.mk Z6
        have F6 := Aside0.mk F6
        have C6 := Aside0.mk C6
        have M6 := Aside0.mk M6
        have hV := Aside0.mk hvlt
        clear hvlt
        go_wp2_with fail
        refine (entClone_calls ⟨o, n, p, is, sumE (lastS seed es) o n p is⟩ A1 c1 _ (by obtain ⟨A1', c1', e, hl', hC⟩ := Kd.R_reads M6.out; injection e with e1 _ e2; subst e1; exact hC : Kd.C Kd.string w6 A1 is.length is) hl).mono ?_
        rintro e w7 ⟨⟨v3, rfl, hR7⟩, hb7⟩
        obtain ⟨A7, c7, rfl⟩ := Kd.R_slice hR7
        have Z7 := blk_below Z6.out hb7
        obtain ⟨r0, r1, r2, r3, r4, rs⟩ := five Z7
        have fz := blk_frozen Z7
        have R7 := Aside0.mk hR7
        have HB7 := Aside0.mk hb7
        have Z7 := Aside0.mk Z7
        clear hR7 hb7 q0 q1 q2 q3 q4 qs f2
        unfold entV
        go_wp2
        have F8 := ((F6.out.below HB7.out).then_ (set5_fr w7 w.heap.size (.int .i64 o) (.int .i64 n) (.string p) (.slice A7 is.length c7) (.int .u64 (sumE (lastS seed es) o n p is))) (fun k hk => .inr (by rw [hk]; exact Nat.le_refl _)))
        have hg6 : w.heap.size < w6.heap.size := blk_lt Z6.out
        refine bodyPost_ret (v := entV ⟨o, n, p, is, sumE (lastS seed es) o n p is⟩ (.slice A7 is.length c7)) (results_cell_row Tryd.results12 _ _ w.heap.size 33 _ (0, 0) _ rfl (set5_blk Z7.out (.int .i64 o) (.int .i64 n) (.string p) (.slice A7 is.length c7) (.int .u64 (sumE (lastS seed es) o n p is))) Tryd.underlying33 rfl (by kernel_rfl)) rfl ⟨?_, F8, ?_⟩
        · rw [addE, if_pos HM.out]
          refine ⟨_, rfl, Kd.R_lower (R_fr R7.out (set5_fr w7 w.heap.size _ _ _ _ _) (fun k hk _ _ e => ?_)) (Nat.le_of_lt hg6)⟩
          omega
        · rw [addE, if_pos HM.out]
          refine ⟨_, ((C6.out.below HB7.out).fr (set5_fr w7 w.heap.size _ _ _ _ _) (fun e => by omega) (fun k _ _ h => h.2)).mono (fun k h => h.1) H.out.nok, ?_⟩
          · rcases hat5.out with h5 | ⟨b, e1, e2⟩
            · exact .inl ((ownB _ _ _ _ _).trans h5)
            · exact .inr ⟨b, (ownB _ _ _ _ _).trans e1, Nat.le_trans F3.out.size e2⟩
end Go.Proofs.YtmbkmfdmpimegaaDoor
