/-
  The walks of Chain.last and Chain.Add. The walks of begin, Entry.line, Chain.Encode and Chain.Entries. The walks of Chain.Encode and Chain.Entries. The walks of audit.Check, lives and handed.
-/
import Derived.Test.YtmbkmfdmpimegaaDoorK1
namespace Go.Proofs.YtmbkmfdmpimegaaDoor
open Go.RowKit Go.Lib Go.Sort Go.Proofs.YtmbkmfdmpimegaaDoorW.PrintWords Go.Proofs.YtmbkmfdmpimegaaDoor.PR

/-- a chain in block g, its entries' row v; the blocks of ok alone lie in it -/
structure Chain (base : Nat) (ok : Nat → Prop) (w : World) (g : Nat) (v : Value) (seed : Int) (es : List S30) : Prop where
  blk : w.heap[g]? = some (.cells #[.int .u64 seed, v] 52 (0, 0))
  row : k30.R 33 w base ok v es
  ge : base ≤ g
  nok : ¬ ok g
/-- the blocks that a chain writes -/
def chS (g : Nat) (v : Value) : Nat → Prop := fun k => k = g ∨ v.ownBlock = some k
theorem Chain.fr {base : Nat} {ok : Nat → Prop} {w W : World} {g : Nat} {v : Value} {seed : Int} {es : List S30} {S : Nat → Prop} (h : Chain base ok w g v seed es) (hf : Fr S w W) (hg : ¬ S g) (hs : ∀ k, base ≤ k → k < w.heap.size → ok k → ¬ S k) : Chain base ok W g v seed es :=
  ⟨hf.blk h.blk hg, R_fr h.row hf hs, h.ge, h.nok⟩
theorem Chain.mono {base : Nat} {ok ok' : Nat → Prop} {w : World} {g : Nat} {v : Value} {seed : Int} {es : List S30} (h : Chain base ok w g v seed es) (hs : ∀ k, ok k → ok' k) (hn : ¬ ok' g) : Chain base ok' w g v seed es :=
  ⟨h.blk, Kd.R_mono h.row hs, h.ge, hn⟩
theorem Chain.below {base : Nat} {ok : Nat → Prop} {w W : World} {g : Nat} {v : Value} {seed : Int} {es : List S30} (h : Chain base ok w g v seed es) (hb : Below w.heap.size w W) : Chain base ok W g v seed es :=
  h.fr (Fr.of_below hb nob) (fun h => h) (fun _ _ _ _ h => h)

/-- the sum on which the next entry is made -/
def lastS (seed : Int) (es : List S30) : Int := if es.length = 0 then seed else (es.getD (es.length - 1) z30).f4

theorem ent_get {w : World} {ad : Addr} {es : List S30} (h : Kd.C k30 w (some ad) es.length es) (k : Nat) (hk : k < es.length) :
    ∃ A c, w.cell? (ad.add (k * 5)) = some (.int .i64 es[k].f0) ∧ w.cell? ⟨(ad.add (k * 5)).block, (ad.add (k * 5)).off + 1, none⟩ = some (.int .i64 es[k].f1) ∧ w.cell? ⟨(ad.add (k * 5)).block, (ad.add (k * 5)).off + 2, none⟩ = some (.string es[k].f2) ∧
      w.cell? ⟨(ad.add (k * 5)).block, (ad.add (k * 5)).off + 3, none⟩ = some (.slice A es[k].f3.length c) ∧ w.cell? ⟨(ad.add (k * 5)).block, (ad.add (k * 5)).off + 4, none⟩ = some (.int .u64 es[k].f4) ∧ es[k].f3.length ≤ c ∧ Kd.string.C w A es[k].f3.length es[k].f3 := by
  obtain ⟨ad', A, c, e, h0, h1, h2, h3, h4, hl, hC⟩ := at_T30 h (k : Int) (by omega) (by omega)
  obtain rfl : ad = ad' := by injection e
  have hr : rd_T30 es (k : Int) = es[k] := by simp [rd_T30, List.getD, hk]
  rw [hr] at h0 h1 h2 h3 h4 hl hC
  simp only [Int.toNat_natCast] at h0 h1 h2 h3 h4
  exact ⟨A, c, h0, h1, h2, h3, h4, hl, hC⟩

set_option maxRecDepth 100000 in
theorem last_calls {base : Nat} {ok : Nat → Prop} (g : Nat) (v : Value) (seed : Int) (es : List S30) (w : World) (h : Chain base ok w g v seed es) :
    Calls Tryd.prog 28 #[.pointer (some ⟨g, 0, none⟩)] w fun e w' => e = .returned (.int .u64 (lastS seed es)) ∧ w' = w := by
  obtain ⟨A, c, rfl, hl, hC⟩ := Kd.R_reads h.row
  obtain ⟨p0, p1, ps⟩ := two h.blk
  have hm := hC.2.1
  have HC := Aside0.mk hC
  have H := Aside0.mk h
  clear h hC
  by_cases hn : 0 < es.length
  · cases A with
    | none => obtain ⟨ad, e, _⟩ := HC.out.2.2 hn; cases e
    | some ad =>
      obtain ⟨A3, c3, h0, h1, h2, h3, h4, _, _⟩ := ent_get HC.out (es.length - 1) (by omega)
      go_enter Tryd.func28, Tryd.ntmps28
      go_wp2
      go_ret
      exact ⟨ret_int (by unfold lastS; rw [if_neg (by omega), List.getD_eq_getElem?_getD, List.getElem?_eq_getElem (by omega)]; rfl), rfl⟩
  · go_enter Tryd.func28, Tryd.ntmps28
    go_wp2
    go_ret
    exact ⟨ret_int (by unfold lastS; rw [if_pos (by omega)]), rfl⟩

theorem ownB (A : Option Addr) (n m c c' : Nat) : (Value.slice A n c).ownBlock = (Value.slice A m c').ownBlock := by cases A <;> rfl
theorem info33 : (Tryd.prog.info? 33).map (fun i => (i.zero, i.size, i.bytes)) = some (some (.agg #[(.int .i64 0), (.int .i64 0), (.string ⟨#[]⟩), (.slice none 0 0), (.int .u64 0)]), 5, 64) := by kernel_rfl

/-- what an addition comes to: the entry, the entries -/
def addE (seed : Int) (es : List S30) (o n : Int) (p : ByteArray) (is : List ByteArray) : S30 × List S30 :=
  if mayE o n p is = true then (⟨o, n, p, is, sumE (lastS seed es) o n p is⟩, es ++ [⟨o, n, p, is, sumE (lastS seed es) o n p is⟩]) else (z30, es)

set_option maxRecDepth 100000 in
set_option maxHeartbeats 2000000 in
theorem add_calls {base : Nat} {ok : Nat → Prop} (g : Nat) (v : Value) (seed : Int) (es : List S30) (o n : Int) (p : ByteArray) (A : Option Addr) (c : Nat) (is : List ByteArray) (w : World) (h : Chain base ok w g v seed es)
    (hr : Kd.C Kd.string w A is.length is) (ht : Tab w) (hl : is.length ≤ 1000000) (hes : es.length ≤ 1000000) (hsz : ∀ s ∈ is, s.size ≤ 9223372036854775807) (hp : p.size ≤ 9223372036854775807) (hfresh : ∀ k, w.heap.size ≤ k → ok k) (hbase : base ≤ w.heap.size) :
    Calls Tryd.prog 12 #[.pointer (some ⟨g, 0, none⟩), .int .i64 o, .int .i64 n, .string p, .slice A is.length c] w fun e w' =>
      EntRet w (addE seed es o n p is).1 e w' ∧ Fr (chS g v) w w' ∧ ∃ v1, Chain base ok w' g v1 seed (addE seed es o n p is).2 ∧ (v1.ownBlock = v.ownBlock ∨ ∃ b, v1.ownBlock = some b ∧ w.heap.size ≤ b) := by
  have HR := Aside0.mk hr
  have HT := Aside0.mk ht
  have HS := Aside0.mk hsz
  have HFr := Aside0.mk hfresh
  have H := Aside0.mk h
  clear hr ht hsz hfresh h
  have gs := blk_lt H.out.blk
  go_enter Tryd.func12, Tryd.ntmps12
  go_wp2_with fail
  refine (clone_row A c is _ (Kd.C_below HR.out (below_alloc (Below.refl _ _) _)) (by omega)).mono ?_
  rintro e w1 ⟨v', rfl, hR, hb⟩
  obtain ⟨A1, c1, rfl⟩ := Kd.R_slice hR
  have b1 := blk_below (heap_alloc_new w _) hb
  have HR1 := Aside0.mk hR
  have B1 := Aside0.mk b1
  have HB := Aside0.mk ((below_alloc (Below.refl w.heap.size w) _).trans (hb.mono (by simp)))
  clear hR hb b1
  go_wp2_with fail
  have HC1 := Aside0.mk (Kd.C_alloc (by obtain ⟨A1', c1', e, hl', hC⟩ := Kd.R_reads HR1.out; injection e with e1 _ e2; subst e1; exact hC : Kd.C Kd.string w1 A1 is.length is) (.cells #[.int .i64 o, .int .i64 n, .string p, .slice A1 is.length c1, .int .u64 0] 33))
  refine (mayE_calls o n p A1 c1 is 0 _ HC1.out).mono ?_
  rintro e w2 ⟨rfl, hb2⟩
  have B2 := Aside0.mk (blk_below (blk_alloc B1.out _) hb2)
  have B3 := Aside0.mk (blk_below (heap_alloc_new w1 _) hb2)
  have HB2 := Aside0.mk ((below_alloc HB.out (.cells #[.int .i64 o, .int .i64 n, .string p, .slice A1 is.length c1, .int .u64 0] 33)).trans (hb2.mono (Nat.le_trans HB.out.size (by simp))))
  have HC2 := Aside0.mk (Kd.C_below HC1.out hb2)
  have hws : w.heap.size < w1.heap.size := blk_lt B1.out
  have hb2' := Aside0.mk ((below_alloc (Below.refl w1.heap.size w1) (.cells #[.int .i64 o, .int .i64 n, .string p, .slice A1 is.length c1, .int .u64 0] 33)).trans (hb2.mono (by simp)))
  clear hb2
  cases hm : mayE o n p is with
  | false =>
    have HM := Aside0.mk hm
    clear hm
    obtain ⟨p0, p1, p2, p3, p4, ps⟩ := five B2.out
    have f1 := blk_frozen B2.out
    go_wp2
    have hb2z := hb2'.out
    refine bodyPost_ret (v := entV z30 (.slice none 0 0)) (results_cell_row Tryd.results12 _ _ w.heap.size 33 _ (0, 0) _ rfl (set5_blk B2.out (.int .i64 0) (.int .i64 0) (.string ⟨#[]⟩) (.slice none 0 0) (.int .u64 0)) Tryd.underlying33 rfl (by kernel_rfl)) rfl ⟨?_, ?_, ?_⟩
    · rw [addE, if_neg (by rw [HM.out]; simp)]
      exact ⟨_, rfl, Kd.R_nil _ _ _ _ _⟩
    · exact (Fr.of_below HB2.out _).then_ (set5_fr w2 w.heap.size _ _ _ _ _) (fun k hk => .inr (by rw [hk]; exact Nat.le_refl _))
    · rw [addE, if_neg (by rw [HM.out]; simp)]
      exact ⟨v, H.out.fr ((Fr.of_below HB2.out nob).then_ (set5_fr w2 w.heap.size _ _ _ _ _) (fun k hk => .inr (by rw [hk]; exact Nat.le_refl _))) (fun h => h) (fun _ _ _ _ h => h), .inl rfl⟩
  | true =>
    have HM := Aside0.mk hm
    clear hm
    obtain ⟨q0, q1, q2, q3, q4, qs⟩ := five B3.out
    have f2 := blk_frozen B3.out
    have HCh := Aside0.mk ((H.out.below HB2.out))
    have hmm : 0 ≤ o ∧ o ≤ 1048576 ∧ 0 ≤ n ∧ n ≤ 1099511627776 ∧ is.length ≤ 1000 := by
      have := HM.out
      simp [mayE] at this
      omega
    have HMM := Aside0.mk hmm
    clear hmm
    go_wp2_with fail
    go_region_with (first | (go_at_call 28; refine (last_calls g v seed es _ (HCh.out.below (below_drew (Below.refl _ _)))).mono ?_; (rintro e w' ⟨rfl, rfl⟩)) | (go_at_call 27; refine (sumE_calls o n p A1 c1 is 0 _ _ (Kd.C_drew HC2.out) (HT.out.below (below_drew HB2.out)) (by have := HMM.out; omega) (by have := HMM.out; omega) (by have := HMM.out; omega) (by have := HMM.out; omega) (by have := HMM.out; omega) HS.out hp).mono ?_; (rintro e w3 ⟨rfl, hb3⟩); have B4 := blk_below (blk_drew B3.out) hb3; obtain ⟨r0, r1, r2, r3, r4, rs⟩ := five B4; have f3 := blk_frozen B4; have HB3 := Aside0.mk hb3; clear hb3; have B4 := Aside0.mk B4))
    all_goals
      have F3 := ((Fr.of_below HB2.out nob).drew.below HB3.out).setCell (p := ⟨w1.heap.size, 4, none⟩) (.inr (by exact HB.out.size)) (.int .u64 (sumE (lastS seed es) o n p is))
      have C4 := H.out.fr F3 (fun h => h) (fun _ _ _ _ h => h)
      have E4 := blk_set B4.out 4 (.int .u64 (sumE (lastS seed es) o n p is))
      have Z4 := blk_far (blk_below (blk_drew B2.out) HB3.out) (p := ⟨w1.heap.size, 4, none⟩) (by simp; omega) (.int .u64 (sumE (lastS seed es) o n p is))
      have G4 : Fr (one w1.heap.size) w1 (w3.setCell ⟨w1.heap.size, 4, none⟩ (.int .u64 (sumE (lastS seed es) o n p is))) := (((Fr.of_below hb2'.out (one w1.heap.size)).drew.below HB3.out).setCell (p := ⟨w1.heap.size, 4, none⟩) (.inl rfl) _)
      obtain ⟨W4, e4⟩ : ∃ W4, W4 = w3.setCell ⟨w1.heap.size, 4, none⟩ (.int .u64 (sumE (lastS seed es) o n p is)) := ⟨_, rfl⟩
      rw [← e4] at F3 C4 E4 Z4 G4 ⊢
      have M4 := Kd.R_lower (base' := w.heap.size + 1) (ok := fun k => k ≠ w1.heap.size) (R_fr (Kd.R_mono (Kd.R_bound HR1.out) (fun k hk => by have := hk.2.2.1; omega)) G4 (fun k _ _ h => h)) (by simp)
      clear e4 r0 r1 r2 r3 r4 rs f3 B4 HB3 q0 q1 q2 q3 q4 qs f2
      obtain ⟨p0, p1, ps⟩ := two C4.blk
      have f1 := blk_frozen C4.blk
      obtain ⟨q0, q1, q2, q3, q4, qs⟩ := five E4
      have f2 := blk_frozen E4
      have F3 := Aside0.mk F3
      have C4 := Aside0.mk C4
      have E4 := Aside0.mk E4
      have Z4 := Aside0.mk Z4
      have M4 := Aside0.mk M4
      clear G4
      have hM : Aside0 (k30.M W4.drew base (fun k => w.heap.size + 1 ≤ k) ⟨o, n, p, is, sumE (lastS seed es) o n p is⟩ [.int .i64 o, .int .i64 n, .string p, .slice A1 is.length c1, .int .u64 (sumE (lastS seed es) o n p is)]) :=
        ⟨k30_mkM _ _ _ _ (Kd.R_drew (Kd.R_lower (Kd.R_mono (Kd.R_bound M4.out) (fun _ hk => hk.2.1)) (by omega)))⟩
      have hV : Aside0 (∀ k, w.heap.size + 1 ≤ k → (ok k ∧ k ≠ w.heap.size) ∧ some k ≠ v.ownBlock) := by
        obtain ⟨_, inner, ho, _⟩ := H.out.row
        exact ⟨fun k hk => ⟨⟨HFr.out k (by omega), by omega⟩, fun e => by have := own_lt ho k e.symm; omega⟩⟩
      have hF4 : Aside0 (∀ k, W4.drew.heap.size ≤ k → ok k ∧ k ≠ w.heap.size) := ⟨fun k hk => ⟨HFr.out k (Nat.le_trans F3.out.size hk), by have h1 : w.heap.size < W4.heap.size := blk_lt Z4.out; have h2 : W4.heap.size ≤ k := hk; omega⟩⟩
      have hR4 : Aside0 (k30.R 33 W4.drew base (fun k => ok k ∧ k ≠ w.heap.size) v es) := ⟨Kd.R_drew (R_fr (ok := fun k => ok k ∧ k ≠ w.heap.size) (Kd.R_mono (Kd.R_bound H.out.row) (fun k hk => ⟨hk.1, by have := hk.2.2.1; omega⟩)) F3.out (fun _ _ _ _ h => h))⟩
      have hb4 : Aside0 (base ≤ W4.drew.heap.size) := ⟨Nat.le_trans hbase F3.out.size⟩
      have hl4 : Aside0 ((es.length + 1) * 64 ≤ 140737488355328) := ⟨by omega⟩
      have hgv : Aside0 (some g ≠ v.ownBlock) := ⟨fun e => H.out.nok (H.out.row.1 g e.symm)⟩
      go_wp2_with fail
      go_region_law (refine Kd.R_append_step k30 (w0 := W4.drew) (W := W4.drew) base rfl _ _ 37 33 _ 64 rfl Tryd.underlying37 info33 rfl (by decide) (by decide) v es ⟨o, n, p, is, sumE (lastS seed es) o n p is⟩ [.int .i64 o, .int .i64 n, .string p, .slice A1 is.length c1, .int .u64 (sumE (lastS seed es) o n p is)] (fun k => ok k ∧ k ≠ w.heap.size) (fun k => w.heap.size + 1 ≤ k) (by simp [Act.eval]) (by simp [Act.eval]) hM.out hV.out hF4.out hR4.out (Below.refl _ _) hb4.out hl4.out ?_; intro v1 w5 hR5 _hb5 hg5 hat5; obtain ⟨A5, c5, rfl⟩ := Kd.R_slice hR5; have B5 := blk_grown (blk_drew C4.out.blk) hg5 hgv.out; obtain ⟨s0, s1, ss⟩ := two B5; have fs := blk_frozen B5; have B5 := Aside0.mk B5; have hR5 := Aside0.mk hR5; have hg5 := Aside0.mk hg5; have hat5 := Aside0.mk hat5; clear _hb5)
      all_goals
        have hvlt : ∀ k, v.ownBlock = some k → k < w.heap.size := by
          obtain ⟨_, inner, ho, _⟩ := H.out.row
          exact fun k hk => own_lt ho k hk
        have E6 := blk_far (blk_grown (blk_drew E4.out) hg5.out (fun e => by have := hvlt _ e.symm; omega)) (p := ⟨g, 1, none⟩) (by simp; omega) (.slice A5 (es.length + 1) c5)
        have Z6 := blk_far (blk_grown (blk_drew Z4.out) hg5.out (fun e => by have := hvlt _ e.symm; omega)) (p := ⟨g, 1, none⟩) (by simp; omega) (.slice A5 (es.length + 1) c5)
        have F6 := (((F3.out.mono (S2 := chS g v) (fun k _ h => h.elim)).drew.grown hg5.out (fun k hk => .inl (.inr hk))).setCell (p := ⟨g, 1, none⟩) (.inl (.inl rfl)) (.slice A5 (es.length + 1) c5))
        have C6 : Chain base (fun k => ok k ∧ k ≠ w.heap.size) (w5.setCell ⟨g, 1, none⟩ (.slice A5 (es.length + 1) c5)) g (.slice A5 (es.length + 1) c5) seed (es ++ [⟨o, n, p, is, sumE (lastS seed es) o n p is⟩]) :=
          ⟨blk_set B5.out 1 _, Kd.R_far (p := ⟨g, 1, none⟩) (by simpa using hR5.out) (fun k hk e => H.out.nok (by have e' : k = g := e; rw [← e']; exact hk.1)) _, H.out.ge, fun h => H.out.nok h.1⟩
        have G6 : Fr (chS g v) W4 (w5.setCell ⟨g, 1, none⟩ (.slice A5 (es.length + 1) c5)) := (((Fr.refl (chS g v) W4).drew.grown hg5.out (fun k hk => .inl (.inr hk))).setCell (p := ⟨g, 1, none⟩) (.inl (.inl rfl)) _)
        have M6 := R_fr M4.out G6 (fun k hk _ _ h => by rcases h with h | h; omega; have := hvlt _ h; omega)
        obtain ⟨w6, e6⟩ : ∃ w6, w6 = w5.setCell ⟨g, 1, none⟩ (.slice A5 (es.length + 1) c5) := ⟨_, rfl⟩
        rw [← e6] at E6 Z6 F6 C6 M6 ⊢
        clear e6 G6 p0 p1 ps f1 q0 q1 q2 q3 q4 qs f2 s0 s1 ss fs B5
        obtain ⟨q0, q1, q2, q3, q4, qs⟩ := five E6
        have f2 := blk_frozen E6
        have E6 := Aside0.mk E6
        have Z6 := Aside0.mk Z6
        have F6 := Aside0.mk F6
        have C6 := Aside0.mk C6
        have M6 := Aside0.mk M6
        have hV := Aside0.mk hvlt
        clear hvlt
        go_wp2_with fail
        refine (entClone_calls ⟨o, n, p, is, sumE (lastS seed es) o n p is⟩ A1 c1 _ (by obtain ⟨A1', c1', e, hl', hC⟩ := Kd.R_reads M6.out; injection e with e1 _ e2; subst e1; exact hC : Kd.C Kd.string w6 A1 is.length is) hl).mono ?_
        rintro e w7 ⟨⟨v3, rfl, hR7⟩, hb7⟩
        obtain ⟨A7, c7, rfl⟩ := Kd.R_slice hR7
        have Z7 := blk_below Z6.out hb7
        obtain ⟨r0, r1, r2, r3, r4, rs⟩ := five Z7
        have fz := blk_frozen Z7
        have R7 := Aside0.mk hR7
        have HB7 := Aside0.mk hb7
        have Z7 := Aside0.mk Z7
        clear hR7 hb7 q0 q1 q2 q3 q4 qs f2
        unfold entV
        go_wp2
        have F8 := ((F6.out.below HB7.out).then_ (set5_fr w7 w.heap.size (.int .i64 o) (.int .i64 n) (.string p) (.slice A7 is.length c7) (.int .u64 (sumE (lastS seed es) o n p is))) (fun k hk => .inr (by rw [hk]; exact Nat.le_refl _)))
        have hg6 : w.heap.size < w6.heap.size := blk_lt Z6.out
        refine bodyPost_ret (v := entV ⟨o, n, p, is, sumE (lastS seed es) o n p is⟩ (.slice A7 is.length c7)) (results_cell_row Tryd.results12 _ _ w.heap.size 33 _ (0, 0) _ rfl (set5_blk Z7.out (.int .i64 o) (.int .i64 n) (.string p) (.slice A7 is.length c7) (.int .u64 (sumE (lastS seed es) o n p is))) Tryd.underlying33 rfl (by kernel_rfl)) rfl ⟨?_, F8, ?_⟩
        · rw [addE, if_pos HM.out]
          refine ⟨_, rfl, Kd.R_lower (R_fr R7.out (set5_fr w7 w.heap.size _ _ _ _ _) (fun k hk _ _ e => ?_)) (Nat.le_of_lt hg6)⟩
          omega
        · rw [addE, if_pos HM.out]
          refine ⟨_, ((C6.out.below HB7.out).fr (set5_fr w7 w.heap.size _ _ _ _ _) (fun e => by omega) (fun k _ _ h => h.2)).mono (fun k h => h.1) H.out.nok, ?_⟩
          · rcases hat5.out with h5 | ⟨b, e1, e2⟩
            · exact .inl ((ownB _ _ _ _ _).trans h5)
            · exact .inr ⟨b, (ownB _ _ _ _ _).trans e1, Nat.le_trans F3.out.size e2⟩
end Go.Proofs.YtmbkmfdmpimegaaDoor
namespace Go.Proofs.YtmbkmfdmpimegaaDoor
open Go.RowKit Go.Lib Go.Sort Go.Proofs.YtmbkmfdmpimegaaDoorW.PrintWords Go.Proofs.YtmbkmfdmpimegaaDoor.PR

theorem ret_str {a b : ByteArray} (h : a = b) : Ending.returned (.string a) = .returned (.string b) := by rw [h]
theorem utoaB_size (u : Nat) (h : u < 18446744073709551616) : (utoaB u).size ≤ 20 := by
  have h := Lib.nDigits_le20 u h
  have e : (utoaB u).size = (Lib.decDigits u).length := by simp [utoaB, ByteArray.size]
  rw [e, Lib.decDigits_length]; exact h
theorem itoaB_size21 (n : Int) (h0 : -9223372036854775808 ≤ n) (h1 : n ≤ 9223372036854775807) : (itoaB n).size ≤ 21 := by
  have h := Lib.itoa_length_le n h0 h1
  have e : (itoaB n).size = (Lib.itoa n).length := by simp [itoaB, ByteArray.size]
  omega

def beginB (u : Nat) : ByteArray := ⟨#[97, 117, 100, 105, 116, 32]⟩ ++ utoaB u
theorem begin_calls (u : Nat) (hu : u < 18446744073709551616) (w : World) (ht : Tab w) :
    Calls Tryd.prog 31 #[.int .u64 u] w fun e w' => e = .returned (.string (beginB u)) ∧ Below w.heap.size w w' := by
  have hs := utoaB_size u hu
  have HT := Aside0.mk ht
  clear ht
  go_enter Tryd.func31, Tryd.ntmps31
  go_wp2_with (go_at_call 44; refine (fmtU_calls u hu _ HT.out).mono ?_; rintro e w' ⟨rfl, hb⟩)
  go_ret
  exact ⟨rfl, hb⟩

/-- texts, a sign between each two -/
def joinB (ws : List ByteArray) (sep : ByteArray) : ByteArray := ⟨(Lib.join (ws.map (·.data.toList)) sep.data.toList).toArray⟩
theorem lens_le (l : List (List UInt8)) (m : Nat) (h : ∀ x ∈ l, x.length ≤ m) : Lib.lens l ≤ m * l.length := by
  induction l with
  | nil => simp [Lib.lens]
  | cons a l ih =>
    have h1 := h a List.mem_cons_self
    have h2 := ih (fun x hx => h x (List.mem_cons_of_mem _ hx))
    simp only [Lib.lens, List.map_cons, List.sum_cons, List.length_cons] at h2 ⊢
    have : m * (l.length + 1) = m * l.length + m := by rw [Nat.mul_add, Nat.mul_one]
    omega
theorem join_bound (ws : List ByteArray) (m : Nat) (h : ∀ x ∈ ws, x.size ≤ m) (c : UInt8) : (Lib.join (ws.map (·.data.toList)) [c]).length ≤ (m + 1) * ws.length := by
  cases ws with
  | nil => simp [Lib.join_nil]
  | cons a l =>
    rw [List.map_cons, Lib.join_length]
    have := lens_le ((a :: l).map (·.data.toList)) m (by
      intro x hx
      simp only [List.mem_map] at hx
      obtain ⟨y, hy, rfl⟩ := hx
      simpa using h y hy)
    have e2 : ([c] : List UInt8).length = 1 := rfl
    rw [e2, Nat.one_mul, List.length_map, List.length_cons]
    simp only [List.length_map, List.length_cons, List.map_cons] at this
    have e : (m + 1) * (l.length + 1) = m * (l.length + 1) + (l.length + 1) := by rw [Nat.add_mul, Nat.one_mul]
    omega
theorem join_calls (A : Option Addr) (c : Nat) (ws : List ByteArray) (s : UInt8) (m : Nat) (w : World) (hr : Kd.C Kd.string w A ws.length ws) (hc : ws.length ≤ c) (hm : ∀ x ∈ ws, x.size ≤ m) (hmm : (m + 1) * ws.length ≤ 140737488355328) :
    Calls Tryd.prog 45 #[.slice A ws.length c, .string ⟨#[s]⟩] w fun e w' => e = .returned (.string (joinB ws ⟨#[s]⟩)) ∧ Below w.heap.size w w' := by
  by_cases hn : ws.length = 0
  · obtain rfl : ws = [] := List.length_eq_zero_iff.1 hn
    refine (Tryd.strings_Join_none A c ⟨#[s]⟩ w).mono ?_
    rintro e w' ⟨rfl, rfl⟩
    exact ⟨rfl, Below.refl _ _⟩
  · cases A with
    | none => obtain ⟨ad, e, _⟩ := hr.2.2 (by omega); cases e
    | some ad =>
      have hs := strs_spot hr (by omega)
      obtain ⟨b, off, sp⟩ := ad
      obtain rfl : sp = none := hs
      have hget : ∀ (j : Nat) x, ws[j]? = some x → w.cell? ⟨b, off + j, none⟩ = some (.string x) := by
        intro j x hx
        obtain ⟨hj, rfl⟩ := List.getElem?_eq_some_iff.1 hx
        obtain ⟨ad, e, hc⟩ := strs_get hr j hj
        obtain rfl : (⟨b, off, none⟩ : Addr) = ad := by injection e
        rwa [Lib.add_plain] at hc
      have hb : b < w.heap.size := by
        have := hget 0 ws[0] (List.getElem?_eq_getElem (by omega))
        exact World.block_lt_of_cell? w _ this
      have hlen := join_bound ws m hm s
      exact Tryd.strings_Join b off c ws ⟨#[s]⟩ w hget hb (by have : ws.length ≤ (m + 1) * ws.length := Nat.le_mul_of_pos_left _ (by omega); omega) hc (by simpa using Nat.le_trans hlen hmm)

/-- an entry's things in a line -/
def itemsB (is : List ByteArray) : ByteArray := if 0 < is.length then joinB is ⟨#[44]⟩ else ⟨#[46]⟩
/-- an entry's line -/
def lineB (x : S30) : ByteArray := joinB [itoaB x.f0, itoaB x.f1, x.f2, itemsB x.f3, utoaB x.f4.toNat] ⟨#[32]⟩
/-- an entry that may be, with a sum of 64 bits -/
def Fine (x : S30) : Prop := mayE x.f0 x.f1 x.f2 x.f3 = true ∧ 0 ≤ x.f4 ∧ x.f4 < 18446744073709551616
theorem nameB_size {s : ByteArray} (h : nameB s = true) : s.size ≤ 24 := by
  simp [nameB] at h; exact h.1.2
theorem mayE_parts {o n : Int} {p : ByteArray} {is : List ByteArray} (h : mayE o n p is = true) : 0 ≤ o ∧ o ≤ 1048576 ∧ 0 ≤ n ∧ n ≤ 1099511627776 ∧ nameB p = true ∧ is.length ≤ 1000 ∧ ∀ s ∈ is, nameB s = true := by
  simp only [mayE, Bool.and_eq_true, decide_eq_true_eq, List.all_eq_true] at h
  obtain ⟨⟨⟨⟨⟨⟨a, b⟩, c⟩, d⟩, e⟩, f⟩, g⟩ := h
  exact ⟨a, b, c, d, e, f, g⟩
theorem itemsB_size (is : List ByteArray) (h : is.length ≤ 1000) (hs : ∀ s ∈ is, s.size ≤ 24) : (itemsB is).size ≤ 25000 := by
  unfold itemsB
  split
  · have := join_bound is 24 hs 44
    have e : (joinB is ⟨#[44]⟩).size = (Lib.join (is.map (·.data.toList)) [44]).length := by simp [joinB, ByteArray.size]
    rw [e]
    have : (24 + 1) * is.length ≤ 25 * 1000 := Nat.mul_le_mul_left _ h
    omega
  · decide

set_option maxRecDepth 100000 in
set_option maxHeartbeats 2000000 in
theorem line_calls (x : S30) (A : Option Addr) (c : Nat) (w : World) (hr : Kd.C Kd.string w A x.f3.length x.f3) (hc : x.f3.length ≤ c) (hx : Fine x) (ht : Tab w) :
    Calls Tryd.prog 32 #[entV x (.slice A x.f3.length c)] w fun e w' => e = .returned (.string (lineB x)) ∧ Below w.heap.size w w' := by
  have HX := Aside0.mk hx
  have HR := Aside0.mk hr
  have HT := Aside0.mk ht
  have HC := Aside0.mk hc
  have hmy := mayE_parts hx.1
  have hn3 : x.f3.length ≤ 1000 := hmy.2.2.2.2.2.1
  have HM := Aside0.mk hmy
  have HU := Aside0.mk hx.2
  obtain ⟨u, hu⟩ : ∃ u : Nat, x.f4 = u := ⟨x.f4.toNat, by have := hx.2; omega⟩
  have HU2 := Aside0.mk hu
  clear hx hr ht hc hmy hu
  unfold entV
  rw [HU2.out]
  have hlst : ∀ s ∈ [itoaB x.f0, itoaB x.f1, x.f2, itemsB x.f3, utoaB u], s.size ≤ 25000 := by
    intro s hs
    simp only [List.mem_cons, List.not_mem_nil, or_false] at hs
    have hm := HM.out
    have hu := HU.out
    have hu2 := HU2.out
    rcases hs with rfl | rfl | rfl | rfl | rfl
    · have := itoaB_size21 x.f0 (by omega) (by omega); omega
    · have := itoaB_size21 x.f1 (by omega) (by omega); omega
    · have := nameB_size hm.2.2.2.2.1; omega
    · exact itemsB_size _ hn3 (fun s hs => nameB_size (hm.2.2.2.2.2.2 s hs))
    · have := utoaB_size u (by omega); omega
  have HL := Aside0.mk hlst
  clear hlst
  have hfin : lineB x = joinB [itoaB x.f0, itoaB x.f1, x.f2, itemsB x.f3, utoaB u] ⟨#[32]⟩ := by unfold lineB; rw [HU2.out]; rfl
  have HFin := Aside0.mk hfin
  clear hfin
  by_cases hpos : 0 < x.f3.length
  · go_enter Tryd.func32, Tryd.ntmps32
    go_wp2_with fail
    refine (join_calls A c x.f3 44 24 _ (Kd.C_alloc HR.out _) HC.out (fun s hs => nameB_size (HM.out.2.2.2.2.2.2 s hs)) (by omega)).mono ?_
    rintro e W0 ⟨rfl, hb⟩
    have b1 := blk_below (heap_alloc_new w _) hb
    have HB := Aside0.mk ((below_alloc (Below.refl w.heap.size w) _).trans (hb.mono (by simp)))
    obtain ⟨c0, c1, c2, c3, c4, cs⟩ := five b1
    clear hb b1
    have HI : Aside0 (itemsB x.f3 = joinB x.f3 ⟨#[44]⟩) := ⟨by rw [itemsB, if_pos hpos]⟩
    have HQ0 := Aside0.mk (below_drew (Below.refl W0.heap.size W0))
    go_wp2_with fail
    go_region_held3 (fun W => W.cell? ⟨w.heap.size, 0, none⟩ = some (.int .i64 x.f0) ∧ W.cell? ⟨w.heap.size, 1, none⟩ = some (.int .i64 x.f1) ∧ W.cell? ⟨w.heap.size, 2, none⟩ = some (.string x.f2) ∧ W.cell? ⟨w.heap.size, 4, none⟩ = some (.int .u64 u)) (first | exact ⟨pw_cell_below (‹Aside0 (Below W0.heap.size W0 _)›).out c0, pw_cell_below (‹Aside0 (Below W0.heap.size W0 _)›).out c1, pw_cell_below (‹Aside0 (Below W0.heap.size W0 _)›).out c2, pw_cell_below (‹Aside0 (Below W0.heap.size W0 _)›).out c4⟩ | exact ⟨pw_cell_below (below_alloc (‹Aside0 (Below W0.heap.size W0 _)›).out _) c0, pw_cell_below (below_alloc (‹Aside0 (Below W0.heap.size W0 _)›).out _) c1, pw_cell_below (below_alloc (‹Aside0 (Below W0.heap.size W0 _)›).out _) c2, pw_cell_below (below_alloc (‹Aside0 (Below W0.heap.size W0 _)›).out _) c4⟩) (first | (go_at_call 42; refine (itoa_calls _ (by have := HM.out; omega) (by have := HM.out; omega) _ (HT.out.below (HB.out.trans ((‹Aside0 (Below W0.heap.size W0 _)›).out.mono HB.out.size)))).mono ?_; (rintro e w' ⟨rfl, hb⟩); have HQ1 := Aside0.mk ((‹Aside0 (Below W0.heap.size W0 _)›).out.trans (hb.mono (‹Aside0 (Below W0.heap.size W0 _)›).out.size)); clear hb) | (go_at_call 44; refine (fmtU_calls u (by have := HU.out; have := HU2.out; omega) _ (HT.out.below (HB.out.trans ((‹Aside0 (Below W0.heap.size W0 _)›).out.mono HB.out.size)))).mono ?_; (rintro e w' ⟨rfl, hb⟩); have HQ1 := Aside0.mk ((‹Aside0 (Below W0.heap.size W0 _)›).out.trans (hb.mono (‹Aside0 (Below W0.heap.size W0 _)›).out.size)); clear hb) | (go_at_call 45; refine (join_calls _ _ [itoaB x.f0, itoaB x.f1, x.f2, joinB x.f3 ⟨#[44]⟩, utoaB u] 32 25000 _ (strs_lit _ [itoaB x.f0, itoaB x.f1, x.f2, joinB x.f3 ⟨#[44]⟩, utoaB u] (by simp)) (by simp) (by rw [← HI.out]; exact HL.out) (by simp)).mono ?_; (rintro e w' ⟨rfl, hb⟩); have HQ1 := Aside0.mk ((below_alloc (‹Aside0 (Below W0.heap.size W0 _)›).out _).trans (hb.mono (by have := (‹Aside0 (Below W0.heap.size W0 _)›).out.size; simp; omega))); clear hb))
    all_goals
      have HQ2 := Aside0.mk (HB.out.trans ((‹Aside0 (Below W0.heap.size W0 _)›).out.mono HB.out.size))
      go_wp2
      go_ret
      exact ⟨ret_str (by rw [HFin.out, HI.out]), HQ2.out⟩
  · have HI : Aside0 (itemsB x.f3 = ⟨#[46]⟩) := ⟨by rw [itemsB, if_neg hpos]⟩
    go_enter Tryd.func32, Tryd.ntmps32
    go_wp2_with fail
    obtain ⟨W0, e0⟩ : ∃ W0, W0 = w.alloc (.cells #[.int .i64 x.f0, .int .i64 x.f1, .string x.f2, .slice A x.f3.length c, .int .u64 u] 33) := ⟨_, rfl⟩
    have b1 : W0.heap[w.heap.size]? = some (.cells #[.int .i64 x.f0, .int .i64 x.f1, .string x.f2, .slice A x.f3.length c, .int .u64 u] 33) := by rw [e0]; exact heap_alloc_new w _
    have HB : Aside0 (Below w.heap.size w W0) := by rw [e0]; exact ⟨below_alloc (Below.refl w.heap.size w) _⟩
    obtain ⟨c0, c1, c2, c3, c4, cs⟩ := five b1
    rw [← e0]
    clear b1 e0
    have HQ0 := Aside0.mk (below_drew (Below.refl W0.heap.size W0))
    go_wp2_with fail
    go_region_held3 (fun W => W.cell? ⟨w.heap.size, 0, none⟩ = some (.int .i64 x.f0) ∧ W.cell? ⟨w.heap.size, 1, none⟩ = some (.int .i64 x.f1) ∧ W.cell? ⟨w.heap.size, 2, none⟩ = some (.string x.f2) ∧ W.cell? ⟨w.heap.size, 4, none⟩ = some (.int .u64 u)) (first | exact ⟨pw_cell_below (‹Aside0 (Below W0.heap.size W0 _)›).out c0, pw_cell_below (‹Aside0 (Below W0.heap.size W0 _)›).out c1, pw_cell_below (‹Aside0 (Below W0.heap.size W0 _)›).out c2, pw_cell_below (‹Aside0 (Below W0.heap.size W0 _)›).out c4⟩ | exact ⟨pw_cell_below (below_alloc (‹Aside0 (Below W0.heap.size W0 _)›).out _) c0, pw_cell_below (below_alloc (‹Aside0 (Below W0.heap.size W0 _)›).out _) c1, pw_cell_below (below_alloc (‹Aside0 (Below W0.heap.size W0 _)›).out _) c2, pw_cell_below (below_alloc (‹Aside0 (Below W0.heap.size W0 _)›).out _) c4⟩) (first | (go_at_call 42; refine (itoa_calls _ (by have := HM.out; omega) (by have := HM.out; omega) _ (HT.out.below (HB.out.trans ((‹Aside0 (Below W0.heap.size W0 _)›).out.mono HB.out.size)))).mono ?_; (rintro e w' ⟨rfl, hb⟩); have HQ1 := Aside0.mk ((‹Aside0 (Below W0.heap.size W0 _)›).out.trans (hb.mono (‹Aside0 (Below W0.heap.size W0 _)›).out.size)); clear hb) | (go_at_call 44; refine (fmtU_calls u (by have := HU.out; have := HU2.out; omega) _ (HT.out.below (HB.out.trans ((‹Aside0 (Below W0.heap.size W0 _)›).out.mono HB.out.size)))).mono ?_; (rintro e w' ⟨rfl, hb⟩); have HQ1 := Aside0.mk ((‹Aside0 (Below W0.heap.size W0 _)›).out.trans (hb.mono (‹Aside0 (Below W0.heap.size W0 _)›).out.size)); clear hb) | (go_at_call 45; refine (join_calls _ _ [itoaB x.f0, itoaB x.f1, x.f2, ⟨#[46]⟩, utoaB u] 32 25000 _ (strs_lit _ [itoaB x.f0, itoaB x.f1, x.f2, ⟨#[46]⟩, utoaB u] (by simp)) (by simp) (by rw [← HI.out]; exact HL.out) (by simp)).mono ?_; (rintro e w' ⟨rfl, hb⟩); have HQ1 := Aside0.mk ((below_alloc (‹Aside0 (Below W0.heap.size W0 _)›).out _).trans (hb.mono (by have := (‹Aside0 (Below W0.heap.size W0 _)›).out.size; simp; omega))); clear hb))
    all_goals
      have HQ2 := Aside0.mk (HB.out.trans ((‹Aside0 (Below W0.heap.size W0 _)›).out.mono HB.out.size))
      go_wp2
      go_ret
      exact ⟨ret_str (by rw [HFin.out, HI.out]), HQ2.out⟩
end Go.Proofs.YtmbkmfdmpimegaaDoor
namespace Go.Proofs.YtmbkmfdmpimegaaDoor
open Go.RowKit Go.Lib Go.Sort Go.Proofs.YtmbkmfdmpimegaaDoorW.PrintWords Go.Proofs.YtmbkmfdmpimegaaDoor.PR

/-- the lines of entries, behind a text -/
def encFrom (acc : ByteArray) : List S30 → ByteArray
  | [] => acc
  | x :: l => encFrom (acc ++ (lineB x ++ ⟨#[10]⟩)) l
def encB (u : Nat) (es : List S30) : ByteArray := encFrom (beginB u ++ ⟨#[10]⟩) es
theorem encFrom_drop (acc : ByteArray) (es : List S30) (k : Nat) (hk : k < es.length) : encFrom acc (es.drop k) = encFrom (acc ++ (lineB es[k] ++ ⟨#[10]⟩)) (es.drop (k + 1)) := by
  rw [List.drop_eq_getElem_cons hk]; rfl
theorem lineB_size (x : S30) (hx : Fine x) : (lineB x).size ≤ 200000 := by
  have hm := mayE_parts hx.1
  have hu := hx.2
  unfold lineB
  have := join_bound [itoaB x.f0, itoaB x.f1, x.f2, itemsB x.f3, utoaB x.f4.toNat] 25000 (by
    intro s hs
    simp only [List.mem_cons, List.not_mem_nil, or_false] at hs
    rcases hs with rfl | rfl | rfl | rfl | rfl
    · have := itoaB_size21 x.f0 (by omega) (by omega); omega
    · have := itoaB_size21 x.f1 (by omega) (by omega); omega
    · have := nameB_size hm.2.2.2.2.1; omega
    · exact itemsB_size _ hm.2.2.2.2.2.1 (fun s hs => nameB_size (hm.2.2.2.2.2.2 s hs))
    · have := utoaB_size x.f4.toNat (by omega); omega) 32
  have e : (joinB [itoaB x.f0, itoaB x.f1, x.f2, itemsB x.f3, utoaB x.f4.toNat] ⟨#[32]⟩).size = (Lib.join ([itoaB x.f0, itoaB x.f1, x.f2, itemsB x.f3, utoaB x.f4.toNat].map (·.data.toList)) [32]).length := by simp [joinB, ByteArray.size]
  rw [e]
  have e3 : [itoaB x.f0, itoaB x.f1, x.f2, itemsB x.f3, utoaB x.f4.toNat].length = 5 := rfl
  rw [e3] at this
  omega

set_option maxRecDepth 100000 in
set_option maxHeartbeats 2000000 in
theorem encode_calls {base : Nat} {ok : Nat → Prop} (g : Nat) (v : Value) (u : Nat) (es : List S30) (w : World) (h : Chain base ok w g v u es) (hu : u < 18446744073709551616) (hf : ∀ x ∈ es, Fine x) (hl : es.length ≤ 1000000) (ht : Tab w) :
    Calls Tryd.prog 16 #[.pointer (some ⟨g, 0, none⟩)] w fun e w' => ∃ A c, e = .returned (.slice A (encB u es).size c) ∧ (encB u es).size ≤ c ∧ ReadsInt w' .u8 A (encB u es).size (bytesOf (encB u es)) ∧ Below w.heap.size w w' := by
  obtain ⟨A, c, rfl, hlc, hC⟩ := Kd.R_reads h.row
  obtain ⟨p0, p1, ps⟩ := two h.blk
  have hbs := utoaB_size u hu
  have hb6 : (beginB u).size = 6 + (utoaB u).size := by unfold beginB; rw [ByteArray.size_append]; rfl
  have HB6 := Aside0.mk hb6
  have HC := Aside0.mk hC
  have HT := Aside0.mk ht
  have HF := Aside0.mk hf
  have H := Aside0.mk h
  clear h hC ht hf hb6
  go_enter Tryd.func16, Tryd.ntmps16
  go_wp2_with fail
  refine (begin_calls u hu _ HT.out).mono ?_
  rintro e w1 ⟨rfl, hb⟩
  obtain ⟨p0, p1, ps⟩ := two (H.out.below hb).blk
  have HB := Aside0.mk hb
  have hsz : (beginB u).size ≤ 26 := by have := HB6.out; omega
  obtain ⟨t0, ht0⟩ : ∃ t0, t0 = beginB u := ⟨_, rfl⟩
  rw [← ht0] at hsz ⊢
  have HT0 := Aside0.mk ht0
  clear hb ht0
  go_wp2_with fail
  go_loopw [3, 17] (fun s i wr => ∃ (k : Nat) (acc : ByteArray), i = .int .i64 k ∧ s = .string acc ∧ k ≤ es.length ∧ Aside0 (encFrom acc (es.drop k) = encB u es) ∧ Aside0 (acc.size ≤ 100 + 200001 * k) ∧ Aside0 (Below w.heap.size w wr)) (fun _ i _ => es.length - (intOf i).toNat)
  case atStart => exact ⟨0, t0 ++ ⟨#[10]⟩, rfl, rfl, Nat.zero_le _, ⟨by rw [List.drop_zero, HT0.out]; rfl⟩, ⟨by rw [ByteArray.size_append]; show t0.size + 1 ≤ _; omega⟩, HB⟩
  case round =>
    obtain ⟨k, acc, rfl, rfl, hk, HE, HS, HBr⟩ := hrel
    by_cases hlt : k < es.length
    · cases A with
      | none => obtain ⟨ad, e, _⟩ := HC.out.2.2 (by omega); cases e
      | some ad =>
        obtain ⟨A3, c3, h0, h1, h2, h3, h4, hl3, hC3⟩ := ent_get (Kd.C_below HC.out HBr.out) k hlt
        have HX := Aside0.mk (HF.out es[k] (List.getElem_mem hlt))
        have hls := lineB_size es[k] HX.out
        have HD := Aside0.mk (encFrom_drop acc es k hlt)
        obtain ⟨x, hx⟩ : ∃ x, x = es[k] := ⟨_, rfl⟩
        rw [← hx] at h0 h1 h2 h3 h4 hl3 hC3 HX hls HD
        clear hx
        have HC3 := Aside0.mk hC3
        have hS2 := HS.out
        clear hC3
        go_wp2_with fail
        refine (line_calls x A3 c3 _ (Kd.C_alloc HC3.out _) hl3 HX.out (HT.out.below (below_alloc HBr.out _))).mono ?_
        rintro e w2 ⟨rfl, hb2⟩
        have HB2 := Aside0.mk ((below_alloc HBr.out _).trans (hb2.mono (Nat.le_trans HBr.out.size (by simp))))
        clear hb2 h0 h1 h2 h3 h4
        obtain ⟨t1, ht1⟩ : ∃ t1, t1 = lineB x := ⟨_, rfl⟩
        rw [← ht1] at hls HD ⊢
        clear ht1
        go_wp2
        go_roundw
        case rel => exact ⟨k + 1, _, by go_num, rfl, by omega, ⟨by rw [← HD.out]; exact HE.out⟩, ⟨by rw [ByteArray.size_append, ByteArray.size_append]; show acc.size + (t1.size + 1) ≤ _; omega⟩, HB2⟩
        case measure => simp [intOf]; omega
    · have hend := Aside0.mk (show acc = encB u es from by rw [← HE.out, List.drop_of_length_le (by omega)]; rfl)
      have hS2 := HS.out
      have hcv := fun W => print_bytes (P := Tryd.prog) 9 39 5 Tryd.underlying9 Tryd.underlying39 Tryd.underlying5 acc W
      go_wp2
      go_ret
      rw [← hend.out]
      exact ⟨_, _, rfl, grownCap_ge _ _ _ _, bytes_reads _ 5 acc (by omega), bytes_below HBr.out HBr.out.size 5 acc⟩

set_option maxRecDepth 100000 in
set_option maxHeartbeats 2000000 in
theorem entries_calls {base : Nat} {ok : Nat → Prop} (g : Nat) (v : Value) (seed : Int) (es : List S30) (w : World) (h : Chain base ok w g v seed es) (hl : es.length ≤ 1000000) (hi : ∀ x ∈ es, x.f3.length ≤ 1000000) :
    Calls Tryd.prog 15 #[.pointer (some ⟨g, 0, none⟩)] w fun e w' => ∃ v', e = .returned v' ∧ k30.R 33 w' w.heap.size any v' es ∧ Below w.heap.size w w' := by
  obtain ⟨A, c, rfl, hlc, hC⟩ := Kd.R_reads h.row
  obtain ⟨p0, p1, ps⟩ := two h.blk
  have HC := Aside0.mk hC
  have HI := Aside0.mk hi
  clear h hC hi
  go_enter Tryd.func15, Tryd.ntmps15
  go_wp2
  go_loopw [3, 11] (fun s i wr => ∃ k : Nat, i = .int .i64 k ∧ k ≤ es.length ∧ Aside0 (k30.R 33 wr w.heap.size any s (es.take k)) ∧ Aside0 (Below w.heap.size w wr)) (fun _ i _ => es.length - (intOf i).toNat)
  case atStart => exact ⟨0, rfl, Nat.zero_le _, ⟨Kd.R_nil _ _ _ _ _⟩, ⟨Below.refl _ _⟩⟩
  case round =>
    obtain ⟨k, rfl, hk, HR, HBr⟩ := hrel
    by_cases hlt : k < es.length
    · cases A with
      | none => obtain ⟨ad, e, _⟩ := HC.out.2.2 (by omega); cases e
      | some ad =>
        obtain ⟨A3, c3, h0, h1, h2, h3, h4, hl3, hC3⟩ := ent_get (Kd.C_below HC.out HBr.out) k hlt
        have HX := Aside0.mk (HI.out es[k] (List.getElem_mem hlt))
        have HD := Aside0.mk (List.take_succ_eq_append_getElem hlt)
        obtain ⟨x, hx⟩ : ∃ x, x = es[k] := ⟨_, rfl⟩
        rw [← hx] at h0 h1 h2 h3 h4 hl3 hC3 HX HD
        clear hx
        have HC3 := Aside0.mk hC3
        clear hC3
        go_wp2_with fail
        refine (entClone_calls x A3 c3 _ (Kd.C_alloc HC3.out _) HX.out).mono ?_
        rintro e w2 ⟨⟨v3, rfl, hR3⟩, hb2⟩
        obtain ⟨A4, c4, rfl⟩ := Kd.R_slice hR3
        have HR3 := Aside0.mk hR3
        have HR2 := Aside0.mk (Kd.R_below (Kd.R_alloc HR.out (.cells #[.int .i64 x.f0, .int .i64 x.f1, .string x.f2, .slice A3 x.f3.length c3, .int .u64 x.f4] 33)) hb2)
        have HB2 := Aside0.mk ((below_alloc HBr.out (.cells #[.int .i64 x.f0, .int .i64 x.f1, .string x.f2, .slice A3 x.f3.length c3, .int .u64 x.f4] 33)).trans (hb2.mono (Nat.le_trans HBr.out.size (by simp))))
        have HLt : Aside0 (∀ j, u3.ownBlock = some j → j < wr.heap.size) := by
          obtain ⟨_, inner, ho, _⟩ := HR.out
          exact ⟨fun j hj => own_lt ho j hj⟩
        clear hb2 h0 h1 h2 h3 h4 hR3
        unfold entV
        have hM : Aside0 (k30.M w2 w.heap.size (fun j => wr.heap.size + 1 ≤ j) x [.int .i64 x.f0, .int .i64 x.f1, .string x.f2, .slice A4 x.f3.length c4, .int .u64 x.f4]) :=
          ⟨k30_mkM _ _ _ _ (Kd.R_lower (Kd.R_mono (Kd.R_bound HR3.out) (fun _ hk => by simpa using hk.2.1)) (by have := HBr.out.size; simp; omega))⟩
        have hV : Aside0 (∀ j, wr.heap.size + 1 ≤ j → any j ∧ some j ≠ u3.ownBlock) := ⟨fun j hj => ⟨trivial, fun e => by have := HLt.out j e.symm; omega⟩⟩
        have hL : Aside0 (((es.take k).length + 1) * 64 ≤ 140737488355328) := ⟨by rw [List.length_take]; omega⟩
        go_wp2_with (at_builtin; refine Kd.R_append k30 (w0 := w2) (W := w2) w.heap.size rfl _ _ 37 33 _ 64 rfl Tryd.underlying37 info33 rfl (by decide) (by decide) u3 (es.take k) x [.int .i64 x.f0, .int .i64 x.f1, .string x.f2, .slice A4 x.f3.length c4, .int .u64 x.f4] any (fun j => wr.heap.size + 1 ≤ j) rfl rfl hM.out hV.out (fun _ _ => trivial) HR2.out (Below.refl _ _) HB2.out.size hL.out ?_)
        intro v5 w5 hR5 _hb5 hg5 hat5
        have HR5 := Aside0.mk hR5
        have HB5 := Aside0.mk (HB2.out.grown hg5 HB2.out.size (by obtain ⟨_, inner, ho, _⟩ := HR.out; exact fun j hj => own_base ho j hj))
        clear hR5 _hb5 hg5 hat5
        go_wp2
        go_roundw
        case rel => exact ⟨k + 1, by go_num, by omega, ⟨by rw [HD.out]; exact HR5.out⟩, HB5⟩
        case measure => simp [intOf]; omega
    · go_wp2
      go_ret
      exact ⟨_, rfl, by rw [List.take_of_length_le (by omega)] at HR; exact HR.out, HBr.out⟩
end Go.Proofs.YtmbkmfdmpimegaaDoor
set_option linter.unusedSimpArgs false
set_option linter.unusedVariables false
namespace Go.Proofs.YtmbkmfdmpimegaaDoor
open Go.RowKit Go.Lib Go.Sort Go.Proofs.YtmbkmfdmpimegaaDoorW.PrintWords Go.Proofs.YtmbkmfdmpimegaaDoorW.PrintLast Go.Proofs.YtmbkmfdmpimegaaDoor.PR

/-- the place of the first entry that isn't right -/
def checkE (ahead : Int) : List S30 → Nat → Int
  | [], k => k
  | x :: l, k => if mayE x.f0 x.f1 x.f2 x.f3 = true then (if x.f4 = sumE ahead x.f0 x.f1 x.f2 x.f3 then checkE x.f4 l (k + 1) else k) else k
theorem checkE_drop (ahead : Int) (es : List S30) (k : Nat) (hk : k < es.length) : checkE ahead (es.drop k) k = if mayE es[k].f0 es[k].f1 es[k].f2 es[k].f3 = true then (if es[k].f4 = sumE ahead es[k].f0 es[k].f1 es[k].f2 es[k].f3 then checkE es[k].f4 (es.drop (k + 1)) (k + 1) else k) else k := by
  rw [List.drop_eq_getElem_cons hk]; rfl

def reg18_5.T : Bool × List (List Nat × List Nat) := (true, [([], []), ([0], [0]), ([1], [1]), ([2, 1], [2]), ([3], [3]), ([4, 3], [3, 4]), ([3], [3]), ([3], [3]), ([6, 7, 3, 3], [3, 6, 7]), ([5, 8, 3], [3, 5, 8]), ([3, 9], [3, 9])])
def reg18_5.B : List Nat := [0, 1, 3, 7, 15, 31, 15, 15, 207, 511, 1023]
theorem reg18_5.tab : rtab .any (opsOf Tryd.f18 5) = reg18_5.T := by kernel_rfl
theorem reg18_5.bits : waitsOk reg18_5.T.2 reg18_5.B = true := by kernel_rfl
set_option maxRecDepth 100000 in
set_option maxHeartbeats 4000000 in
theorem check_calls (seed : Int) (A : Option Addr) (c : Nat) (es : List S30) (w : World) (hC : Kd.C k30 w A es.length es) (ht : Tab w) :
    Calls Tryd.prog 18 #[.int .u64 seed, .slice A es.length c] w fun e w' => e = .returned (.int .i64 (checkE seed es 0)) ∧ Below w.heap.size w w' := by
  have HC := Aside0.mk hC
  have hn := hC.2.1
  have HT := Aside0.mk ht
  clear hC ht
  go_enter Tryd.func18, Tryd.ntmps18
  go_wp2
  go_loopw [5, 11] (fun s i wr => ∃ (k : Nat) (ahead : Int), i = .int .i64 k ∧ s = .int .u64 ahead ∧ k ≤ es.length ∧ Aside0 (checkE ahead (es.drop k) k = checkE seed es 0) ∧ Aside0 (Below w.heap.size w wr)) (fun _ i _ => es.length - (intOf i).toNat)
  case atStart => exact ⟨0, seed, rfl, rfl, Nat.zero_le _, ⟨rfl⟩, ⟨Below.refl _ _⟩⟩
  case round =>
    obtain ⟨k, ahead, rfl, rfl, hk, HE, HBr⟩ := hrel
    by_cases hlt : k < es.length
    · cases A with
      | none => obtain ⟨ad, e, _⟩ := HC.out.2.2 (by omega); cases e
      | some ad =>
        obtain ⟨A3, c3, h0, h1, h2, h3, h4, hl3, hC3⟩ := ent_get (Kd.C_below HC.out HBr.out) k hlt
        have HD := Aside0.mk (HE.out.symm.trans (checkE_drop ahead es k hlt))
        obtain ⟨x, hx⟩ : ∃ x, x = es[k] := ⟨_, rfl⟩
        rw [← hx] at h0 h1 h2 h3 h4 hl3 hC3 HD
        clear hx
        have HC3 := Aside0.mk hC3
        clear hC3
        go_wp2_with fail
        obtain ⟨W0, e0⟩ : ∃ W0, W0 = wr.alloc (.cells #[.int .i64 x.f0, .int .i64 x.f1, .string x.f2, .slice A3 x.f3.length c3, .int .u64 x.f4] 33) := ⟨_, rfl⟩
        have b1 : W0.heap[wr.heap.size]? = some (.cells #[.int .i64 x.f0, .int .i64 x.f1, .string x.f2, .slice A3 x.f3.length c3, .int .u64 x.f4] 33) := by rw [e0]; exact heap_alloc_new wr _
        have HB0 : Aside0 (Below w.heap.size w W0) := by rw [e0]; exact ⟨below_alloc HBr.out _⟩
        have HC0 : Aside0 (Kd.C Kd.string W0 A3 x.f3.length x.f3) := by rw [e0]; exact ⟨Kd.C_alloc HC3.out _⟩
        rw [← e0]
        clear e0 h0 h1 h2 h3 h4
        obtain ⟨c0, c1, c2, c3', c4, cs⟩ := five b1
        have HQ0 := Aside0.mk (below_drew (Below.refl W0.heap.size W0))
        have B1 := Aside0.mk b1
        clear b1
        cases hm : mayE x.f0 x.f1 x.f2 x.f3 with
        | false =>
          have HM := Aside0.mk hm
          clear hm
          refine start_ (n := 11) (S := fun W => W.cell? ⟨wr.heap.size, 0, none⟩ = some (.int .i64 x.f0) ∧ W.cell? ⟨wr.heap.size, 1, none⟩ = some (.int .i64 x.f1) ∧ W.cell? ⟨wr.heap.size, 2, none⟩ = some (.string x.f2) ∧ W.cell? ⟨wr.heap.size, 3, none⟩ = some (.slice A3 x.f3.length c3) ∧ W.cell? ⟨wr.heap.size, 4, none⟩ = some (.int .u64 x.f4)) (ds := []) #[false, false, false, false, false, false, false, false, false, false, false] (by kernel_rfl) rfl rfl ⟨pw_cell_below HQ0.out c0, pw_cell_below HQ0.out c1, pw_cell_below HQ0.out c2, pw_cell_below HQ0.out c3', pw_cell_below HQ0.out c4⟩ (fun hHeld => ?_)
          refine with_tabW reg18_5.tab reg18_5.bits (fun HT_ HW_ => ?_)
          refine take_ (i := 0) (N := (some 16)) (v := ?_) (a' := ?_) #[true, false, false, false, false, false, false, false, false, false, false] rfl rfl (take_ofW HT_.out HW_.out (by kernel_rfl)) (fun _ _ _ h => h) (Or.inl ⟨by rfl, ?_⟩) hHeld ?_ ?_
          rotate_left
          · rintro w' ⟨s0, s1, s2, s3, s4⟩
            go_simp
            with_reducible rfl
          rotate_left
          · simp only [Act.put, List.setIfInBounds_toArray, List.set_cons_zero, List.set_cons_succ, i64_w, i32_w]
            rfl
          refine one_ (i := 1) (N := (some 17)) #[true, true, false, false, false, false, false, false, false, false, false] rfl rfl (one_of HT_.out (by kernel_rfl)) (by decide) (fun K hK => ?_)
          refine goes_ Tryd.func26 (by kernel_rfl) rfl #[.agg #[.int .i64 x.f0, .int .i64 x.f1, .string x.f2, .slice A3 x.f3.length c3, .int .u64 x.f4]] (by rfl) rfl rfl (by (try simp only [List.map_toArray, List.map_cons, List.map_nil]); first | done | rfl) ?_
          refine (mayE_calls x.f0 x.f1 x.f2 _ _ x.f3 x.f4 _ (Kd.C_below HC0.out HQ0.out)).mono ?_
          rintro e w' ⟨rfl, hb⟩
          refine ⟨_, rfl, ?_⟩
          rw [HM.out]
          have HQ1 := Aside0.mk (HQ0.out.trans (hb.mono HQ0.out.size))
          clear hb
          refine hK.out _ _ ⟨pw_cell_below HQ1.out c0, pw_cell_below HQ1.out c1, pw_cell_below HQ1.out c2, pw_cell_below HQ1.out c3', pw_cell_below HQ1.out c4⟩ (fun hHeld => ?_)
          clear hK K
          refine norm_ (a' := ?_) ?_ ?_
          rotate_left
          · show Act.put _ (some 17) _ = _
            simp only [Act.put, List.setIfInBounds_toArray, List.set_cons_zero, List.set_cons_succ, i64_w, i32_w]
            rfl
          refine pure_ (i := 2) (N := (some 18)) (v := ?_) (a' := ?_) #[true, true, true, false, false, false, false, false, false, false, false] rfl rfl (any_of HT_.out (by kernel_rfl)) (fun _ _ _ h => h) (Or.inl ⟨by rfl, ?_⟩) ?_ ?_
          rotate_left
          · intro w'
            go_simp
            with_reducible rfl
          rotate_left
          · simp only [Act.put, List.setIfInBounds_toArray, List.set_cons_zero, List.set_cons_succ, i64_w, i32_w]
            rfl
          refine pure_ (i := 3) (N := (some 19)) (v := ?_) (a' := ?_) #[true, true, true, true, false, false, false, false, false, false, false] rfl rfl (any_of HT_.out (by kernel_rfl)) (fun _ _ _ h => h) (Or.inl ⟨by rfl, ?_⟩) ?_ ?_
          rotate_left
          · intro w'
            go_simp
            with_reducible rfl
          rotate_left
          · simp only [Act.put, List.setIfInBounds_toArray, List.set_cons_zero, List.set_cons_succ, i64_w, i32_w]
            rfl
          refine pure_ (i := 4) (N := (some 20)) (v := undef) (a' := ?_) #[true, true, true, true, true, false, false, false, false, false, false] rfl rfl (any_of HT_.out (by kernel_rfl)) (fun _ _ _ h => h) (Or.inr ⟨by rfl, rfl⟩) ?_ ?_
          rotate_left
          · simp only [Act.put, List.setIfInBounds_toArray, List.set_cons_zero, List.set_cons_succ, i64_w, i32_w]
            rfl
          refine pure_ (i := 5) (N := (some 21)) (v := undef) (a' := ?_) #[true, true, true, true, true, true, false, false, false, false, false] rfl rfl (any_of HT_.out (by kernel_rfl)) (fun _ _ _ h => h) (Or.inr ⟨by rfl, rfl⟩) ?_ ?_
          rotate_left
          · simp only [Act.put, List.setIfInBounds_toArray, List.set_cons_zero, List.set_cons_succ, i64_w, i32_w]
            rfl
          refine pure_ (i := 6) (N := (some 22)) (v := undef) (a' := ?_) #[true, true, true, true, true, true, true, false, false, false, false] rfl rfl (any_of HT_.out (by kernel_rfl)) (fun _ _ _ h => h) (Or.inr ⟨by rfl, rfl⟩) ?_ ?_
          rotate_left
          · simp only [Act.put, List.setIfInBounds_toArray, List.set_cons_zero, List.set_cons_succ, i64_w, i32_w]
            rfl
          refine pure_ (i := 7) (N := (some 23)) (v := undef) (a' := ?_) #[true, true, true, true, true, true, true, true, false, false, false] rfl rfl (any_of HT_.out (by kernel_rfl)) (fun _ _ _ h => h) (Or.inr ⟨by rfl, rfl⟩) ?_ ?_
          rotate_left
          · simp only [Act.put, List.setIfInBounds_toArray, List.set_cons_zero, List.set_cons_succ, i64_w, i32_w]
            rfl
          refine pure_ (i := 8) (N := (some 24)) (v := undef) (a' := ?_) #[true, true, true, true, true, true, true, true, true, false, false] rfl rfl (any_of HT_.out (by kernel_rfl)) (fun _ _ _ h => h) (Or.inr ⟨by rfl, rfl⟩) ?_ ?_
          rotate_left
          · simp only [Act.put, List.setIfInBounds_toArray, List.set_cons_zero, List.set_cons_succ, i64_w, i32_w]
            rfl
          refine pure_ (i := 9) (N := (some 25)) (v := undef) (a' := ?_) #[true, true, true, true, true, true, true, true, true, true, false] rfl rfl (any_of HT_.out (by kernel_rfl)) (fun _ _ _ h => h) (Or.inr ⟨by rfl, rfl⟩) ?_ ?_
          rotate_left
          · simp only [Act.put, List.setIfInBounds_toArray, List.set_cons_zero, List.set_cons_succ, i64_w, i32_w]
            rfl
          refine pure_ (i := 10) (N := (some 26)) (v := ?_) (a' := ?_) #[true, true, true, true, true, true, true, true, true, true, true] rfl rfl (any_of HT_.out (by kernel_rfl)) (fun _ _ _ h => h) (Or.inl ⟨by rfl, ?_⟩) ?_ ?_
          rotate_left
          · intro w'
            go_simp
            with_reducible rfl
          rotate_left
          · simp only [Act.put, List.setIfInBounds_toArray, List.set_cons_zero, List.set_cons_succ, i64_w, i32_w]
            rfl
          refine done_ (done_of HT_.out (by kernel_rfl)) ?_
          all_goals
            have HB1 := Aside0.mk (HB0.out.trans ((‹Aside0 (Below W0.heap.size W0 _)›).out.mono HB0.out.size))
            go_wp2
            go_ret
            exact ⟨ret_int (by rw [HD.out, if_neg (by rw [HM.out]; simp)]), HB1.out⟩
        | true =>
          have HM := Aside0.mk hm
          have HP := Aside0.mk (mayE_parts hm)
          clear hm
          cases hs : (x.f4 != sumE ahead x.f0 x.f1 x.f2 x.f3) with
          | true =>
            go_region_held3 (fun W => W.cell? ⟨wr.heap.size, 0, none⟩ = some (.int .i64 x.f0) ∧ W.cell? ⟨wr.heap.size, 1, none⟩ = some (.int .i64 x.f1) ∧ W.cell? ⟨wr.heap.size, 2, none⟩ = some (.string x.f2) ∧ W.cell? ⟨wr.heap.size, 3, none⟩ = some (.slice A3 x.f3.length c3) ∧ W.cell? ⟨wr.heap.size, 4, none⟩ = some (.int .u64 x.f4)) (exact ⟨pw_cell_below (‹Aside0 (Below W0.heap.size W0 _)›).out c0, pw_cell_below (‹Aside0 (Below W0.heap.size W0 _)›).out c1, pw_cell_below (‹Aside0 (Below W0.heap.size W0 _)›).out c2, pw_cell_below (‹Aside0 (Below W0.heap.size W0 _)›).out c3', pw_cell_below (‹Aside0 (Below W0.heap.size W0 _)›).out c4⟩) (first | (go_at_call 26; refine (mayE_calls _ _ _ _ _ x.f3 _ _ (Kd.C_below HC0.out (‹Aside0 (Below W0.heap.size W0 _)›).out)).mono ?_; (rintro e w' ⟨rfl, hb⟩); rw [HM.out]; have HQ1 := Aside0.mk ((‹Aside0 (Below W0.heap.size W0 _)›).out.trans (hb.mono (‹Aside0 (Below W0.heap.size W0 _)›).out.size)); clear hb) | (go_at_call 27; refine (sumE_calls _ _ _ _ _ x.f3 _ _ _ (Kd.C_below HC0.out (‹Aside0 (Below W0.heap.size W0 _)›).out) (HT.out.below (HB0.out.trans ((‹Aside0 (Below W0.heap.size W0 _)›).out.mono HB0.out.size))) (by have := HP.out; omega) (by have := HP.out; omega) (by have := HP.out; omega) (by have := HP.out; omega) (by have := HP.out; omega) (fun s hs => by have := nameB_size (HP.out.2.2.2.2.2.2 s hs); omega) (by have := nameB_size HP.out.2.2.2.2.1; omega)).mono ?_; (rintro e w' ⟨rfl, hb⟩); have HQ1 := Aside0.mk ((‹Aside0 (Below W0.heap.size W0 _)›).out.trans (hb.mono (‹Aside0 (Below W0.heap.size W0 _)›).out.size)); clear hb))
  
            all_goals
              have HS := Aside0.mk hs
              clear hs
              have HB1 := Aside0.mk (HB0.out.trans ((‹Aside0 (Below W0.heap.size W0 _)›).out.mono HB0.out.size))
              go_wp2
              go_ret
              exact ⟨ret_int (by rw [HD.out, if_pos HM.out, if_neg (by simpa using HS.out)]), HB1.out⟩
          | false =>
            go_region_held3 (fun W => W.cell? ⟨wr.heap.size, 0, none⟩ = some (.int .i64 x.f0) ∧ W.cell? ⟨wr.heap.size, 1, none⟩ = some (.int .i64 x.f1) ∧ W.cell? ⟨wr.heap.size, 2, none⟩ = some (.string x.f2) ∧ W.cell? ⟨wr.heap.size, 3, none⟩ = some (.slice A3 x.f3.length c3) ∧ W.cell? ⟨wr.heap.size, 4, none⟩ = some (.int .u64 x.f4)) (exact ⟨pw_cell_below (‹Aside0 (Below W0.heap.size W0 _)›).out c0, pw_cell_below (‹Aside0 (Below W0.heap.size W0 _)›).out c1, pw_cell_below (‹Aside0 (Below W0.heap.size W0 _)›).out c2, pw_cell_below (‹Aside0 (Below W0.heap.size W0 _)›).out c3', pw_cell_below (‹Aside0 (Below W0.heap.size W0 _)›).out c4⟩) (first | (go_at_call 26; refine (mayE_calls _ _ _ _ _ x.f3 _ _ (Kd.C_below HC0.out (‹Aside0 (Below W0.heap.size W0 _)›).out)).mono ?_; (rintro e w' ⟨rfl, hb⟩); rw [HM.out]; have HQ1 := Aside0.mk ((‹Aside0 (Below W0.heap.size W0 _)›).out.trans (hb.mono (‹Aside0 (Below W0.heap.size W0 _)›).out.size)); clear hb) | (go_at_call 27; refine (sumE_calls _ _ _ _ _ x.f3 _ _ _ (Kd.C_below HC0.out (‹Aside0 (Below W0.heap.size W0 _)›).out) (HT.out.below (HB0.out.trans ((‹Aside0 (Below W0.heap.size W0 _)›).out.mono HB0.out.size))) (by have := HP.out; omega) (by have := HP.out; omega) (by have := HP.out; omega) (by have := HP.out; omega) (by have := HP.out; omega) (fun s hs => by have := nameB_size (HP.out.2.2.2.2.2.2 s hs); omega) (by have := nameB_size HP.out.2.2.2.2.1; omega)).mono ?_; (rintro e w' ⟨rfl, hb⟩); have HQ1 := Aside0.mk ((‹Aside0 (Below W0.heap.size W0 _)›).out.trans (hb.mono (‹Aside0 (Below W0.heap.size W0 _)›).out.size)); clear hb))
  
            all_goals
              have HS := Aside0.mk hs
              clear hs
              have HQ9 := (‹Aside0 (Below W0.heap.size W0 _)›)
              have HB1 := Aside0.mk (HB0.out.trans (HQ9.out.mono HB0.out.size))
              obtain ⟨d0, d1, d2, d3, d4, ds⟩ := five (blk_below B1.out HQ9.out)
              go_wp2
              go_roundw
              case rel => exact ⟨k + 1, _, by go_num, rfl, by omega, ⟨by rw [HD.out, if_pos HM.out, if_pos (by simpa using HS.out)]⟩, HB1⟩
              case measure => simp [intOf]; omega
    · go_wp2
      go_ret
      exact ⟨ret_int (by rw [← HE.out, List.drop_of_length_le (by omega)]; unfold checkE; omega), HBr.out⟩
end Go.Proofs.YtmbkmfdmpimegaaDoor
