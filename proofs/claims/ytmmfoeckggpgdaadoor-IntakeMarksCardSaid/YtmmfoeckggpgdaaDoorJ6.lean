/-
  The walk of lives, the chapter's example. Rows of events as the print reads them; Same and Heavy. The walk of the law IntakeMarks: it answers true.
-/
import Derived.Test.YtmmfoeckggpgdaaDoorJ5
import Derived.Test.YtmmfoeckggpgdaaDoorJ4
set_option linter.unusedSimpArgs false
set_option linter.unusedVariables false
namespace Go.Proofs.YtmmfoeckggpgdaaDoor
open Go.RowKit Go.Lib Go.Maps Go.Proofs.YtmmfoeckggpgdaaDoorW.PrintWords

def exE (n at_ : Int) : Ev := ⟨⟨#[97]⟩, n, at_, 14, ⟨#[112]⟩, ⟨#[]⟩, 0, ⟨#[]⟩⟩
theorem exE_may1 : mayB (exE 1 5) = true := by decide +kernel
theorem exE_may2 : mayB (exE 2 4) = true := by decide +kernel
theorem exE_may3 : mayB (exE 1 9) = true := by decide +kernel
def exC : Clk := hearC (tickC (newC 0 0) 0) ⟨#[97]⟩ 5 0
theorem exC_hears : hearsB (tickC (newC 0 0) 0) ⟨#[97]⟩ 5 0 = true := by decide +kernel
theorem exC_mark : exC.mark = 4 := by decide +kernel
theorem exC_not : hearsB (tickC exC 0) ⟨#[97]⟩ 4 0 = false := by decide +kernel
theorem InOk.new (slack idle : Int) : InOk (emptyIn slack idle) 0 := ⟨List.Pairwise.nil, (by intro e he; cases he), Nat.le_refl _, Nat.le_refl _⟩
theorem hasS_nil (s : ByteArray) (n : Int) : hasS [] s n = false := rfl
theorem lookB_eq {x : In} {e : Ev} (h1 : mayB e = true) (h2 : ((getL x.gone e.person).getD false && (e.kind != 14)) = false) : lookB x e = if hasS x.had e.source e.number = true then 1 else 0 := by
  unfold lookB; rw [h1, h2]; rfl
theorem takeP_had (x : In) (e : Ev) (had' : List (ByteArray × Row)) : (takeP x e had').had = had' := by unfold takeP; split <;> rfl
theorem ex1 {v : Int} {x' : In} (h : Offered (emptyIn 0 0) (exE 1 5) 0 v x') : v = 0 ∧ x'.clk = exC ∧ ∀ s n, hasS x'.had s n = decide (s = ⟨#[97]⟩ ∧ n = 1) := by
  have hl : lookB (emptyIn 0 0) (exE 1 5) = 0 := by
    rw [lookB_eq exE_may1 (by simp [exE])]
    rfl
  rcases h with ⟨h0, _⟩ | ⟨_, _, h1, had', hm, rfl⟩ | ⟨_, h2, _⟩
  · exact absurd hl h0
  · refine ⟨h1, by rw [takeP_clk]; rfl, fun s n => ?_⟩
    rw [takeP_had, hm s n]
    show (_ || hasS [] s n) = _
    rw [hasS_nil, Bool.or_false]
    rfl
  · have := exC_hears
    rw [show (emptyIn 0 0).clk = newC 0 0 from rfl] at h2
    have h3 : hearsB (tickC (newC 0 0) 0) ⟨#[97]⟩ 5 0 = false := h2
    rw [this] at h3; cases h3
theorem ex2 {x x' : In} {v : Int} (hc : x.clk = exC) (hh : ∀ s n, hasS x.had s n = decide (s = ⟨#[97]⟩ ∧ n = 1)) (h : Offered x (exE 2 4) 0 v x') : v = 2 ∧ ∀ s n, hasS x'.had s n = decide (s = ⟨#[97]⟩ ∧ n = 1) := by
  have hl : lookB x (exE 2 4) = 0 := by
    rw [lookB_eq exE_may2 (by simp [exE]), hh]
    rfl
  rcases h with ⟨h0, _⟩ | ⟨_, h1, _⟩ | ⟨_, _, h2, rfl⟩
  · exact absurd hl h0
  · rw [hc] at h1
    have h3 : hearsB (tickC exC 0) ⟨#[97]⟩ 4 0 = true := h1
    rw [exC_not] at h3; cases h3
  · exact ⟨h2, hh⟩
theorem ex3 {x x' : In} {v : Int} (hh : ∀ s n, hasS x.had s n = decide (s = ⟨#[97]⟩ ∧ n = 1)) (h : Offered x (exE 1 9) 0 v x') : v = 1 := by
  have hl : lookB x (exE 1 9) = 1 := by
    rw [lookB_eq exE_may3 (by simp [exE]), hh]
    rfl
  rcases h with ⟨_, h1, _⟩ | ⟨h0, _⟩ | ⟨h0, _⟩
  · rw [h1, hl]
  · rw [hl] at h0; cases h0
  · rw [hl] at h0; cases h0
theorem results13 : Tryd.f13.results = #[.cell 4 30] := by kernel_rfl
theorem exF_calls (n at_ : Int) (w : World) : Calls Tryd.prog 13 #[.int .i64 n, .int .i64 at_] w fun e w' => e = .returned (evV (exE n at_)) ∧ Below w.heap.size w w' := by
  go_enter Tryd.func13, Tryd.ntmps13
  go_wp2
  refine bodyPost_ret (v := evV (exE n at_)) (results_cell_row results13 _ _ w.heap.size 30 _ (0, 0) _ rfl (heap_alloc_new w _) Tryd.underlying30 rfl (by kernel_rfl)) rfl ⟨rfl, below_alloc (Below.refl _ _) _⟩
/-- an intake that was made behind w0, and to which events were offered -/
structure Kept1 (w0 W : World) (base : Nat) (y : Lay) (x : In) (N : Nat) : Prop where
  at_ : InAt W base y x
  ok : InOk x N
  cn : y.cn ≤ 2 * N
  sn : y.sn ≤ 2 * N
  mn : y.mn ≤ 2 * N
  new : ∀ k, y.lab k ≤ 5 → w0.heap.size ≤ k
  bel : Below w0.heap.size w0 W
theorem Kept1.below {w0 W W' : World} {base N : Nat} {y : Lay} {x : In} (h : Kept1 w0 W base y x N) (hb : Below W.heap.size W W') : Kept1 w0 W' base y x N := ⟨h.at_.below hb, h.ok, h.cn, h.sn, h.mn, h.new, h.bel.trans (hb.mono h.bel.size)⟩
theorem Kept1.step {w0 w W : World} {base N : Nat} {y y' : Lay} {x x' : In} (h : Kept1 w0 w base y x N) (hs : InStep base w y W y' x') (ho : InOk x' (N + 1)) : Kept1 w0 W base y' x' (N + 1) := by
  have h1 := h.cn; have h2 := h.sn; have h3 := h.mn; have h4 := hs.cn; have h5 := hs.sn; have h6 := hs.mn
  refine ⟨hs.at_, ho, by omega, by omega, by omega, fun k hk => ?_, ?_⟩
  · rcases hs.lab k hk with h8 | h8
    · exact h.new k h8
    · exact Nat.le_trans h.bel.size h8
  · exact h.bel.trans (hs.fr.toBelow h.bel.size (fun k hk => h.new k hk))
theorem NewPost.kept {base : Nat} {slack idle : Int} {w : World} {e : Ending} {W : World} (h : NewPost base slack idle w e W) : ∃ y : Lay, e = .returned (.pointer (some ⟨y.g, 0, none⟩)) ∧ Kept1 w W base y (emptyIn slack idle) 0 := by
  obtain ⟨y, h1, h2, h3, h4, h5, h6, h7⟩ := h
  exact ⟨y, h1, h2, InOk.new _ _, by omega, by omega, by omega, h6, h7⟩
theorem offer_kept {w0 w : World} {base N g : Nat} {y : Lay} {x : In} (e : Ev) (now m : Int) (h : Kept1 w0 w base y x N) (hg : y.g = g) (hbase : base ≤ w0.heap.size) (hm : w0.cell? ⟨0, 0, none⟩ = some (.int .i64 m)) (htx : e.text.size < 4294967281) (hps : e.person.size ≤ maxLen) (hss : e.source.size ≤ maxLen) (hN : N ≤ 1000000) :
    Calls Tryd.prog 8 #[.pointer (some ⟨g, 0, none⟩), evV e, .int .i64 now] w fun r W => ∃ v y' x', r = .returned (.int .i64 v) ∧ Offered x e now v x' ∧ Kept1 w0 W base y' x' (N + 1) ∧ y'.g = g := by
  subst hg
  have hlt : 0 < w0.heap.size := World.block_lt_of_cell? w0 _ hm
  have h1 := h.cn; have h2 := h.sn; have h3 := h.mn; have h4 := h.ok.tlen; have h5 := h.ok.llen
  have hc := offer_calls base y x e now m w h.at_ (Nat.le_trans hbase h.bel.size) (pw_cell_below h.bel hm)  htx hps hss (by omega) (by omega) (by omega) (fun hk => by have := h.new 0 hk; omega) h.ok.ord (by omega) (by omega)
  refine hc.mono ?_
  rintro r W ⟨v, y', x', h6, h7, h8⟩
  exact ⟨v, y', x', h6, h7, h.step h8 (h7.ok h.ok), h8.g⟩
set_option maxHeartbeats 1000000 in
set_option maxRecDepth 100000 in
theorem lives_calls (m : Int) (w : World) (hm : w.cell? ⟨0, 0, none⟩ = some (.int .i64 m)) : Calls Tryd.prog 4 #[] w fun e w' => e = .returned (.bool true) ∧ Below w.heap.size w w' := by
  have HM := Aside0.mk hm
  clear hm
  go_enter Tryd.func4, Tryd.ntmps4
  go_wp2_with fail
  refine (inNew_calls w.heap.size 0 0 w (Nat.le_refl _)).mono ?_
  intro r w1 hr
  obtain ⟨y, rfl, hk⟩ := hr.kept
  have HK1 := Aside0.mk hk
  clear hr hk
  have hn : ∀ W : World, (Go.binOp .eql 25 (.pointer (some ⟨y.g, 0, none⟩)) (.pointer none)).run Tryd.prog W = .ok (.bool false) W := fun _ => rfl
  go_wp2_with fail
  refine (exF_calls 1 5 w1).mono ?_
  rintro r w2 ⟨rfl, hb2⟩
  have HK2 := Aside0.mk (HK1.out.below hb2)
  clear hb2 HK1
  go_wp2_with fail
  refine (offer_kept (exE 1 5) 0 m HK2.out rfl (Nat.le_refl _) HM.out (by decide) (by decide) (by decide) (by decide)).mono ?_
  rintro r w3 ⟨v3, y3, x3, rfl, ho3, hk3, hg3⟩
  have HK3 := Aside0.mk hk3
  obtain ⟨rfl, hc3, hh3⟩ := ex1 ho3
  have HX3 := Aside0.mk (And.intro hc3 hh3)
  rw [← hg3]
  clear hk3 ho3 hc3 hh3 hg3 HK2 hn
  go_wp2_with fail
  have hmk := inMark_calls w.heap.size y3 x3 w3 HK3.out.at_
  rw [HX3.out.1, exC_mark] at hmk
  refine hmk.mono ?_
  rintro r w4 ⟨rfl, rfl⟩
  clear hmk
  go_wp2_with fail
  refine (exF_calls 2 4 w4).mono ?_
  rintro r w5 ⟨rfl, hb5⟩
  have HK5 := Aside0.mk (HK3.out.below hb5)
  clear hb5 HK3
  go_wp2_with fail
  refine (offer_kept (exE 2 4) 0 m HK5.out rfl (Nat.le_refl _) HM.out (by decide) (by decide) (by decide) (by decide)).mono ?_
  rintro r w6 ⟨v6, y6, x6, rfl, ho6, hk6, hg6⟩
  have HK6 := Aside0.mk hk6
  obtain ⟨rfl, hh6⟩ := ex2 HX3.out.1 HX3.out.2 ho6
  have HX6 := Aside0.mk hh6
  rw [← hg6]
  clear hk6 ho6 hh6 hg6 HK5 HX3
  go_wp2_with fail
  refine (exF_calls 1 9 w6).mono ?_
  rintro r w7 ⟨rfl, hb7⟩
  have HK7 := Aside0.mk (HK6.out.below hb7)
  clear hb7 HK6
  go_wp2_with fail
  refine (offer_kept (exE 1 9) 0 m HK7.out rfl (Nat.le_refl _) HM.out (by decide) (by decide) (by decide) (by decide)).mono ?_
  rintro r w8 ⟨v8, y8, x8, rfl, ho8, hk8, hg8⟩
  have HK8 := Aside0.mk hk8
  obtain rfl := ex3 HX6.out ho8
  clear hk8 ho8 hg8 HK7 HX6
  go_wp2
  go_ret
  exact ⟨rfl, HK8.out.bel⟩
end Go.Proofs.YtmmfoeckggpgdaaDoor
set_option linter.unusedSimpArgs false
set_option linter.unusedVariables false
namespace Go.Proofs.YtmmfoeckggpgdaaDoor
open Go.RowKit Go.Lib Go.Maps Go.Proofs.YtmmfoeckggpgdaaDoorW.PrintWords Go.Proofs.YtmmfoeckggpgdaaDoor.PE

def ofEv (e : Ev) : S30 := ⟨e.source, e.number, e.at_, e.kind, e.person, e.item, e.value, e.text⟩
def toEv (x : S30) : Ev := ⟨x.f0, x.f1, x.f2, x.f3, x.f4, x.f5, x.f6, x.f7⟩
theorem evAt_C {w : World} {base : Nat} {v : Value} {l : List Ev} (h : EvAt w base v l) : ∃ A c, v = .slice A l.length c ∧ l.length ≤ c ∧ c ≤ maxLen ∧ Kd.C k30 w A (l.map ofEv).length (l.map ofEv) := by
  obtain ⟨A, c, rfl, hl, hc, hr⟩ := h.form
  refine ⟨A, c, rfl, hl, hc, rfl, by rw [List.length_map]; unfold maxLen at hc; omega, fun hn => ?_⟩
  rw [List.length_map] at hn
  obtain ⟨g, rfl, _, _, hcell, _⟩ := hr hn
  refine ⟨⟨g, 0, none⟩, rfl, fun j p hj => ?_⟩
  rw [List.getElem?_map] at hj
  obtain ⟨e, he, rfl⟩ := Option.map_eq_some_iff.1 hj
  obtain ⟨hjl, rfl⟩ := List.getElem?_eq_some_iff.1 he
  obtain ⟨c0, c1, c2, c3, c4, c5, c6, c7⟩ := hcell j hjl
  refine ⟨_, rfl, k30_mk w (ofEv l[j]), fun i u hu => ?_⟩
  have hsz : k30.sz = 8 := rfl
  rw [hsz]
  have ha : ∀ q : Nat, (⟨g, 0, none⟩ : Addr).add q = ⟨g, q, none⟩ := fun q => by rw [add_plain]
  rw [ha]
  match i, hu with
  | 0, hu => obtain rfl := Option.some.inj hu; exact c0
  | 1, hu => obtain rfl := Option.some.inj hu; exact c1
  | 2, hu => obtain rfl := Option.some.inj hu; exact c2
  | 3, hu => obtain rfl := Option.some.inj hu; exact c3
  | 4, hu => obtain rfl := Option.some.inj hu; exact c4
  | 5, hu => obtain rfl := Option.some.inj hu; exact c5
  | 6, hu => obtain rfl := Option.some.inj hu; exact c6
  | 7, hu => obtain rfl := Option.some.inj hu; exact c7
theorem C_take {α : Type} {d : Kd α} {w : World} {A : Option Addr} {xs : List α} (h : Kd.C d w A xs.length xs) (j : Nat) (hj : j ≤ xs.length) : Kd.C d w A (xs.take j).length (xs.take j) := by
  refine ⟨rfl, Nat.le_trans (by rw [List.length_take]; omega) h.2.1, fun hn => ?_⟩
  rw [List.length_take] at hn
  obtain ⟨ad, e, hc⟩ := h.2.2 (by omega)
  refine ⟨ad, e, fun i p hi => hc i p ?_⟩
  rw [List.getElem?_take] at hi
  split at hi
  · exact hi
  · cases hi
theorem same_loop (l : List S30) (hn : l.length ≤ 1000000000) : ∀ d i, i + d = l.length → ciceroneref02_Same.l0 (d + 1) l l i = some true
  | 0, i, h => by
    unfold ciceroneref02_Same.l0
    rw [if_neg (by omega)]
  | d + 1, i, h => by
    unfold ciceroneref02_Same.l0
    rw [if_pos (by omega), if_pos (by omega), if_pos (by omega), if_neg (by simp), show wrap64 ((i : Int) + 1) = ((i + 1 : Nat) : Int) by unfold wrap64; omega]
    exact same_loop l hn d (i + 1) (by omega)
theorem same_calls (A A' : Option Addr) (c c' : Nat) (l : List Ev) (w : World) (h : Kd.C k30 w A (l.map ofEv).length (l.map ofEv)) (hc : l.length ≤ c) (h' : Kd.C k30 w A' (l.map ofEv).length (l.map ofEv)) (hc' : l.length ≤ c') (hn : l.length ≤ 1000000000) :
    Calls Tryd.prog 12 #[.slice A l.length c, .slice A' l.length c'] w fun e w' => e = .returned (.bool true) ∧ Below w.heap.size w w' := by
  have h8 := ciceroneref02_Same.calls ((l.map ofEv).length + 1) A c (l.map ofEv) A' c' (l.map ofEv) true w h (by rw [List.length_map]; exact hc) h' (by rw [List.length_map]; exact hc') (by
    unfold ciceroneref02_Same.f
    rw [if_pos rfl]
    exact same_loop _ (by rw [List.length_map]; exact hn) _ 0 (by simp))
  rw [List.length_map] at h8
  exact h8.mono (fun e W ⟨h1, h2⟩ => ⟨h1, h2.below⟩)
theorem tick_kept {w0 w : World} {base N g : Nat} {y : Lay} {x : In} (now : Int) (h : Kept1 w0 w base y x N) (hg : y.g = g) :
    Calls Tryd.prog 7 #[.pointer (some ⟨g, 0, none⟩), .int .i64 now] w fun r W => r = .returned (.int .i64 (tickC x.clk now).mark) ∧ Kept1 w0 W base y { x with clk := tickC x.clk now } N := by
  subst hg
  refine (inTick_calls base y x now w h.at_).mono ?_
  rintro r W ⟨rfl, h4, f4⟩
  exact ⟨rfl, h4, h.ok.clk _, h.cn, h.sn, h.mn, h.new, h.bel.trans (f4.toBelow h.bel.size (fun k hk => h.new k (by rw [hk, h.at_.l1 _ (.inl rfl)]; decide)))⟩
theorem mark_kept {w0 w : World} {base N g : Nat} {y : Lay} {x : In} (h : Kept1 w0 w base y x N) (hg : y.g = g) :
    Calls Tryd.prog 9 #[.pointer (some ⟨g, 0, none⟩)] w fun r W => r = .returned (.int .i64 x.clk.mark) ∧ W = w := by
  subst hg
  exact inMark_calls base y x w h.at_
theorem taken_kept {w0 w : World} {base N g : Nat} {y : Lay} {x : In} (h : Kept1 w0 w base y x N) (hg : y.g = g) (hN : N ≤ 1000000) :
    Calls Tryd.prog 11 #[.pointer (some ⟨g, 0, none⟩)] w fun e W => ClonePost x.taken w e W := by
  subst hg
  exact inTaken_calls base y x w h.at_ (by have := h.ok.tlen; omega)
theorem settled_kept {w0 w : World} {base N g : Nat} {y : Lay} {x : In} (h : Kept1 w0 w base y x N) (hg : y.g = g) (hN : N ≤ 1000000) :
    Calls Tryd.prog 10 #[.pointer (some ⟨g, 0, none⟩)] w fun e W => ClonePost (x.taken.take (posW (uptoB x.clk.mark) x.taken)) w e W := by
  subst hg
  exact inSettled_calls base y x w h.at_ (h.ok.ord.upto _) (by have := h.ok.tlen; omega)
/-! ### Heavy -/
def bigB (x : S30) : Bool := decide (300 < x.f0.size) || (decide (300 < x.f4.size) || (decide (300 < x.f5.size) || decide (300 < x.f7.size)))
theorem big_f (x : S30) : ciceroneref02_Big.f x.f0 x.f1 x.f2 x.f3 x.f4 x.f5 x.f6 x.f7 300 = some (bigB x) := by
  unfold ciceroneref02_Big.f bigB
  by_cases h0 : 300 < x.f0.size
  · rw [if_pos (by omega), decide_eq_true h0]; rfl
  rw [if_neg (by omega), decide_eq_false h0]
  by_cases h4 : 300 < x.f4.size
  · rw [if_pos (by omega), decide_eq_true h4]; rfl
  rw [if_neg (by omega), decide_eq_false h4]
  by_cases h5 : 300 < x.f5.size
  · rw [if_pos (by omega), decide_eq_true h5]; rfl
  rw [if_neg (by omega), decide_eq_false h5]
  congr 1
  simp only [Bool.false_or]
  by_cases h7 : 300 < x.f7.size
  · rw [decide_eq_true h7, decide_eq_true (by omega)]
  · rw [decide_eq_false h7, decide_eq_false (by omega)]
def heavyB (l : List S32) (most : Nat) : Bool := decide (most < l.length) || l.any (fun d => bigB d.f1)
theorem heavy_loop (l : List S32) (hn : l.length ≤ 1000000000) : ∀ d i, i + d = l.length → ciceronelaw08_Heavy.l0 (d + 1) l i = some ((l.drop i).any (fun d => bigB d.f1))
  | 0, i, h => by
    unfold ciceronelaw08_Heavy.l0
    rw [if_neg (by omega), List.drop_of_length_le (by omega)]; rfl
  | d + 1, i, h => by
    have hil : i < l.length := by omega
    have e1 : rd_T32 l (i : Int) = l[i] := by unfold rd_T32; simp [hil]
    unfold ciceronelaw08_Heavy.l0
    rw [if_pos (by omega), if_pos (by omega), e1, big_f, show wrap64 ((i : Int) + 1) = ((i + 1 : Nat) : Int) by unfold wrap64; omega, List.drop_eq_getElem_cons hil, List.any_cons, Option.bind_some]
    cases bigB l[i].f1
    · rw [if_neg (by simp), heavy_loop l hn d (i + 1) (by omega)]; rfl
    · rw [if_pos rfl]; rfl
theorem heavy_calls (A : Option Addr) (c : Nat) (l : List S32) (most : Nat) (hm : most ≤ 1000000) (w : World) (h : Kd.C k32 w A l.length l) (hc : l.length ≤ c) :
    Calls Tryd.prog 5 #[.slice A l.length c, .int .i64 most] w fun e w' => e = .returned (.bool (heavyB l most)) ∧ Below w.heap.size w w' := by
  refine ciceronelaw08_Heavy.calls (l.length + 1) A c l most _ w h hc ?_
  unfold ciceronelaw08_Heavy.f heavyB
  by_cases hl : most < l.length
  · rw [if_pos (by omega), decide_eq_true hl]; rfl
  · rw [if_neg (by omega), decide_eq_false hl, Bool.false_or]
    exact heavy_loop l (by omega) l.length 0 (by omega)
theorem heavy_not {l : List S32} {most : Nat} (h : heavyB l most = false) : l.length ≤ most ∧ ∀ d ∈ l, d.f1.f0.size ≤ 300 ∧ d.f1.f4.size ≤ 300 ∧ d.f1.f5.size ≤ 300 ∧ d.f1.f7.size ≤ 300 := by
  unfold heavyB at h
  rw [Bool.or_eq_false_iff, decide_eq_false_iff_not, List.any_eq_false] at h
  refine ⟨by omega, fun d hd => ?_⟩
  have h2 := h.2 d hd
  unfold bigB at h2
  simp only [Bool.or_eq_true, decide_eq_true_eq, not_or] at h2
  omega
theorem count_parted {p : Ev → Bool} {l : List Ev} (h : Parted p l) : l.countP p = posW p l := by
  obtain ⟨h1, h2⟩ := take_posW p l
  have hle := posW_le p l
  have e : l = l.take (posW p l) ++ l.drop (posW p l) := (List.take_append_drop _ _).symm
  generalize posW p l = n at *
  have e1 : (l.take n).countP p = n := by
    rw [List.countP_eq_length.2 h1, List.length_take]; omega
  have e2 : (l.drop n).countP p = 0 := by
    rw [List.countP_eq_zero]
    intro a ha hpa
    obtain ⟨k, hk, rfl⟩ := List.mem_iff_getElem.1 ha
    rw [List.getElem_drop] at hpa
    rw [List.length_drop] at hk
    have h3 := h n (n + k) (by omega) (by omega) (by omega) hpa
    rw [h2 (by omega)] at h3; cases h3
  calc l.countP p = (l.take n ++ l.drop n).countP p := by rw [← e]
    _ = n := by rw [List.countP_append, e1, e2]; rfl
end Go.Proofs.YtmmfoeckggpgdaaDoor
set_option linter.unusedSimpArgs false
set_option linter.unusedVariables false
namespace Go.Proofs.YtmmfoeckggpgdaaDoor
open Go.RowKit Go.Lib Go.Maps Go.Proofs.YtmmfoeckggpgdaaDoorW.PrintWords Go.Proofs.YtmmfoeckggpgdaaDoor.PE

theorem marks_fin {x : In} (ho : Ordered x.taken) : (x.taken.take (posW (uptoB x.clk.mark) x.taken)).length = x.taken.countP (uptoB x.clk.mark) := by
  rw [count_parted (ho.upto _), List.length_take]
  have := posW_le (uptoB x.clk.mark) x.taken
  omega
set_option maxRecDepth 100000 in
set_option maxHeartbeats 4000000 in
theorem marks_calls (slack idle m : Int) (A : Option Addr) (c : Nat) (es : List S32) (w : World) (hC : Kd.C k32 w A es.length es) (hc : es.length ≤ c) (hn : es.length ≤ 9223372036854775807) (hm : w.cell? ⟨0, 0, none⟩ = some (.int .i64 m)) :
    Calls Tryd.prog 3 #[.int .i64 slack, .int .i64 idle, .slice A es.length c] w fun e w' => e = .returned (.bool true) ∧ Below w.heap.size w w' := by
  have HC := Aside0.mk hC
  have HM := Aside0.mk hm
  have HL := Aside0.mk hc
  have HN := Aside0.mk hn
  clear hC hm hc hn
  go_enter Tryd.func3, Tryd.ntmps3
  go_wp2_with fail
  refine (lives_calls m w HM.out).mono ?_
  rintro e w1 ⟨rfl, hb1⟩
  have HB1 := Aside0.mk hb1
  clear hb1
  go_wp2_with fail
  refine (heavy_calls A c es 24 (by decide) w1 (Kd.C_below HC.out HB1.out) HL.out).mono ?_
  rintro e w2 ⟨rfl, hb2⟩
  have HB2 := Aside0.mk (HB1.out.trans (hb2.mono HB1.out.size))
  clear hb2 HB1
  cases hf : heavyB es 24 with
  | true =>
    clear hf
    go_wp2
    go_ret
    exact ⟨rfl, HB2.out⟩
  | false =>
    have HH := Aside0.mk (heavy_not hf)
    clear hf
    go_wp2_with fail
    refine (inNew_calls w2.heap.size slack idle w2 (Nat.le_refl _)).mono ?_
    intro r w3 hr
    obtain ⟨y0, rfl, hk⟩ := hr.kept
    have HK0 := Aside0.mk hk
    have HC2 := Aside0.mk (Kd.C_below HC.out HB2.out)
    have HM2 := Aside0.mk (pw_cell_below HB2.out HM.out)
    clear hr hk HC
    obtain ⟨g, hg⟩ : ∃ g, g = y0.g := ⟨_, rfl⟩
    have HG := Aside0.mk hg.symm
    rw [← hg]
    clear hg
    go_wp2_with fail
    go_loopw [8] (fun i wr => ∃ (k : Nat) (y : Lay) (x : In), i = .int .i64 k ∧ k ≤ es.length ∧ Aside0 (y.g = g) ∧ Aside0 (Kept1 w2 wr w2.heap.size y x k)) (fun i _ => es.length - (intOf i).toNat)
    case atStart => exact ⟨0, y0, _, rfl, Nat.zero_le _, HG, HK0⟩
    case round =>
      obtain ⟨k, y, x, rfl, hk, HY, HK⟩ := hrel
      by_cases hlt : k < es.length
      · obtain ⟨ad, hA, d0, d1, d2, d3, d4, d5, d6, d7, d8, d9, d10⟩ := at_T32 HC2.out (k : Int) (by omega) (by omega)
        subst hA
        have hxs : rd_T32 es (k : Int) = es[k] := by unfold rd_T32; simp [hlt]
        have HX := Aside0.mk (HH.out.2 es[k] (List.getElem_mem hlt))
        have h24 := HH.out.1
        obtain ⟨x0, hx0⟩ : ∃ x0, x0 = es[k] := ⟨_, rfl⟩
        rw [hxs, ← hx0, Int.toNat_natCast] at d0 d1 d2 d3 d4 d5 d6 d7 d8 d9 d10
        rw [← hx0] at HX
        clear hxs hx0
        obtain ⟨dk, ⟨s0, s1, s2, s3, s4, s5, s6, s7⟩, now, dp⟩ := x0
        simp only at d0 d1 d2 d3 d4 d5 d6 d7 d8 d9 d10
        have HD := Aside0.mk (And.intro d0 (And.intro d1 (And.intro d2 (And.intro d3 (And.intro d4 (And.intro d5 (And.intro d6 (And.intro d7 (And.intro d8 d9)))))))))
        have b0 := pw_cell_below HK.out.bel d9
        clear d0 d1 d2 d3 d4 d5 d6 d7 d8 d9 d10
        go_wp2_with fail
        refine (tick_kept now HK.out HY.out).mono ?_
        rintro r w4 ⟨rfl, hk4⟩
        have HK4 := Aside0.mk hk4
        clear hk4 b0
        obtain ⟨mark, hmark⟩ : ∃ mark, mark = (tickC x.clk now).mark := ⟨_, rfl⟩
        rw [← hmark]
        have HMk := Aside0.mk hmark
        clear hmark
        have a0 := pw_cell_below HK4.out.bel HD.out.1
        by_cases hkind : dk < 4
        · obtain ⟨_, d1, d2, d3, d4, d5, d6, d7, d8, d9⟩ := HD.out
          have a1 := pw_cell_below HK4.out.bel d1
          have a2 := pw_cell_below HK4.out.bel d2
          have a3 := pw_cell_below HK4.out.bel d3
          have a4 := pw_cell_below HK4.out.bel d4
          have a5 := pw_cell_below HK4.out.bel d5
          have a6 := pw_cell_below HK4.out.bel d6
          have a7 := pw_cell_below HK4.out.bel d7
          have a8 := pw_cell_below HK4.out.bel d8
          have a9 := pw_cell_below HK4.out.bel d9
          clear d1 d2 d3 d4 d5 d6 d7 d8 d9
          go_wp2_with fail
          go_still_tail 11, (by kernel_rfl)
          change wpList _ _ _ _ _ w4.drew
          go_wp2_with fail
          refine (offer_kept ⟨s0, s1, s2, s3, s4, s5, s6, s7⟩ now m (HK4.out.below (below_drew (Below.refl _ _))) HY.out (Nat.le_refl _) HM2.out (by have := HX.out.2.2.2; simp only at this ⊢; omega) (by have := HX.out.2.1; simp only at this ⊢; unfold maxLen; omega) (by have := HX.out.1; simp only at this ⊢; unfold maxLen; omega) (by omega)).mono ?_
          rintro r w5 ⟨v, y5, x5, rfl, ho, hk5, hg5⟩
          have HK5 := Aside0.mk hk5
          have HY5 := Aside0.mk hg5
          have hm5 : mark ≤ x5.clk.mark := by rw [HMk.out]; have h9 := ho.mark; rw [show ({ x with clk := tickC x.clk now } : In).clk = tickC x.clk now from rfl, tickC_twice] at h9; exact h9
          have h0 : v = 0 → mark < s2 := fun e => by subst e; have h9 := ho.taken; rw [show ({ x with clk := tickC x.clk now } : In).clk = tickC x.clk now from rfl, tickC_twice] at h9; rw [HMk.out]; exact h9
          have h2 : v = 2 → s2 ≤ mark := fun e => by subst e; have h9 := ho.late; rw [show ({ x with clk := tickC x.clk now } : In).clk = tickC x.clk now from rfl, tickC_twice] at h9; rw [HMk.out]; exact h9
          have b3 := pw_cell_below HK5.out.bel HD.out.2.2.2.1
          clear ho hk5 hg5 a0 a1 a2 a3 a4 a5 a6 a7 a8 a9
          obtain ⟨mk5, hmk5⟩ : ∃ mk5, mk5 = x5.clk.mark := ⟨_, rfl⟩
          have hmc := mark_kept HK5.out HY5.out
          rw [← hmk5] at hm5 hmc
          have HMc := Aside0.mk hmc
          clear hmk5 hmc
          by_cases hv0 : v = 0
          · subst hv0
            have h1 := h0 rfl
            clear h0 h2
            go_wp2_with fail
            refine HMc.out.mono ?_
            rintro r w6 ⟨rfl, rfl⟩
            go_wp2
            go_roundw
            case rel => exact ⟨k + 1, y5, x5, by go_num, hlt, HY5, HK5⟩
            case measure => simp [intOf]; omega
          · by_cases hv2 : v = 2
            · subst hv2
              have h1 := h2 rfl
              clear h0 h2 hv0
              go_wp2_with fail
              refine HMc.out.mono ?_
              rintro r w6 ⟨rfl, rfl⟩
              go_wp2
              go_roundw
              case rel => exact ⟨k + 1, y5, x5, by go_num, hlt, HY5, HK5⟩
              case measure => simp [intOf]; omega
            · have n0 : (v == 0) = false := by simpa using hv0
              have n2 : (v == 2) = false := by simpa using hv2
              clear h0 h2 hv0 hv2
              go_wp2_with fail
              refine HMc.out.mono ?_
              rintro r w6 ⟨rfl, rfl⟩
              go_wp2
              go_roundw
              case rel => exact ⟨k + 1, y5, x5, by go_num, hlt, HY5, HK5⟩
              case measure => simp [intOf]; omega
        · have hmc := mark_kept HK4.out HY.out
          rw [show ({ x with clk := tickC x.clk now } : In).clk = tickC x.clk now from rfl, ← HMk.out] at hmc
          have HMc := Aside0.mk hmc
          clear hmc
          go_wp2_with fail
          refine HMc.out.mono ?_
          rintro r w6 ⟨rfl, rfl⟩
          go_wp2
          go_roundw
          case rel => exact ⟨k + 1, y, _, by go_num, hlt, HY, ⟨⟨HK4.out.at_, HK4.out.ok.mono (Nat.le_succ _), by have := HK4.out.cn; omega, by have := HK4.out.sn; omega, by have := HK4.out.mn; omega, HK4.out.new, HK4.out.bel⟩⟩⟩
          case measure => simp [intOf]; omega
      · obtain rfl : k = es.length := by omega
        have hNN : es.length ≤ 1000000 := by have := HH.out.1; omega
        have HNN := Aside0.mk hNN
        clear hNN
        go_wp2_with fail
        refine (settled_kept HK.out HY.out HNN.out).mono ?_
        rintro r w4 ⟨v4, rfl, he4, hb4⟩
        have HK4 := Aside0.mk (HK.out.below hb4)
        obtain ⟨A4, c4, hv4, hl4, hm4, hC4⟩ := evAt_C he4
        obtain ⟨p, hp⟩ : ∃ p, p = posW (uptoB x.clk.mark) x.taken := ⟨_, rfl⟩
        have hpl : (x.taken.take (posW (uptoB x.clk.mark) x.taken)).length = p := by rw [← hp, List.length_take]; have := posW_le (uptoB x.clk.mark) x.taken; omega
        rw [hpl] at hv4 hl4
        have HC4 := Aside0.mk hC4
        have HP := Aside0.mk (And.intro hp (And.intro hpl (And.intro hl4 hm4)))
        subst hv4
        clear he4 hb4 hl4 hm4 hC4 hp hpl
        go_wp2_with fail
        refine (taken_kept HK4.out HY.out HNN.out).mono ?_
        rintro r w5 ⟨v5, rfl, he5, hb5⟩
        have HK5 := Aside0.mk (HK4.out.below hb5)
        have HC45 := Aside0.mk (Kd.C_below HC4.out hb5)
        obtain ⟨A5, c5, hv5, hl5, hm5, hC5⟩ := evAt_C he5
        obtain ⟨A5', c5', hv5', -, -, hcell⟩ := he5.form
        have hA5 : A5' = A5 := by rw [hv5] at hv5'; injection hv5' with h1; exact h1.symm
        subst hA5
        obtain ⟨n, hn⟩ : ∃ n, n = x.taken.length := ⟨_, rfl⟩
        rw [← hn] at hv5 hl5
        have HCell := Aside0.mk hcell
        have HC5 := Aside0.mk hC5
        have HN5 := Aside0.mk (And.intro hn (And.intro hl5 hm5))
        have hn63 : n ≤ 1000000 := by rw [hn]; exact Nat.le_trans HK5.out.ok.tlen HNN.out
        have hc63 : c5 ≤ 9223372036854775807 := by unfold maxLen at hm5; omega
        subst hv5
        clear he5 hb5 hm5 hC5 hn hv5' hcell HC4 HK4
        go_wp2_with fail
        go_loopw [14, 13] (fun i nn wr => ∃ k : Nat, i = .int .i64 k ∧ k ≤ n ∧ nn = .int .i64 ((x.taken.take k).countP (uptoB x.clk.mark)) ∧ Aside0 (Below w5.heap.size w5 wr)) (fun i _ _ => n - (intOf i).toNat)
        case atStart => exact ⟨0, rfl, Nat.zero_le _, rfl, ⟨Below.refl _ _⟩⟩
        case round =>
          obtain ⟨k, rfl, hk, rfl, HB⟩ := hrel
          by_cases hlt2 : k < n
          · obtain ⟨g5, rfl, hg5, _, hce, _⟩ := HCell.out (by have := HN5.out.1; omega)
            have hkl : k < x.taken.length := by have := HN5.out.1; omega
            have q2 := ((hce k hkl).below HB.out).c2
            have hTk := List.take_succ_eq_append_getElem hkl
            obtain ⟨a, ha⟩ : ∃ a, a = x.taken[k] := ⟨_, rfl⟩
            rw [← ha] at q2 hTk
            have hcn : (x.taken.take (k + 1)).countP (uptoB x.clk.mark) = (x.taken.take k).countP (uptoB x.clk.mark) + if uptoB x.clk.mark a = true then 1 else 0 := by
              rw [hTk, List.countP_append, List.countP_singleton]
            have hle := List.countP_le_length (p := uptoB x.clk.mark) (l := x.taken.take k)
            rw [List.length_take] at hle
            obtain ⟨cn, hcne⟩ : ∃ cn, cn = (x.taken.take k).countP (uptoB x.clk.mark) := ⟨_, rfl⟩
            rw [← hcne] at hcn hle ⊢
            have hcb : cn ≤ 1000000 := by omega
            obtain ⟨mk, hmk⟩ : ∃ mk, mk = x.clk.mark := ⟨_, rfl⟩
            have hmc := mark_kept ((HK5.out.below HB.out).below (below_drew (Below.refl wr.heap.size wr))) HY.out
            rw [← hmk] at hmc
            have HMc := Aside0.mk hmc
            have HCn := Aside0.mk hcn
            have HUp : Aside0 (uptoB x.clk.mark a = decide (a.at_ ≤ mk)) := ⟨by unfold uptoB; rw [hmk]⟩
            obtain ⟨at_, hat⟩ : ∃ at_, at_ = a.at_ := ⟨_, rfl⟩
            rw [← hat] at q2 HUp
            clear hce hkl hTk ha hcn hle hcne hmk hmc hat
            go_wp2_with fail
            go_still_tail 7, (by kernel_rfl)
            still_call (HMc.out)
            repeat still_step
            refine wpStill_nil ?_
            change wpList _ _ _ _ _ wr.drew
            by_cases hup : at_ ≤ mk
            · have HC1 : Aside0 ((x.taken.take (k + 1)).countP (uptoB x.clk.mark) = cn + 1) := ⟨by rw [HCn.out, HUp.out, decide_eq_true hup]; rfl⟩
              go_wp2
              go_roundw
              case rel => exact ⟨k + 1, by go_num, hlt2, by rw [HC1.out]; go_num, ⟨HB.out.drew⟩⟩
              case measure => simp [intOf]; omega
            · have HC1 : Aside0 ((x.taken.take (k + 1)).countP (uptoB x.clk.mark) = cn) := ⟨by rw [HCn.out, HUp.out, decide_eq_false hup]; rfl⟩
              go_wp2
              go_roundw
              case rel => exact ⟨k + 1, by go_num, hlt2, by rw [HC1.out], ⟨HB.out.drew⟩⟩
              case measure => simp [intOf]; omega
          · obtain rfl : k = n := by omega
            have hcp : (x.taken.take k).countP (uptoB x.clk.mark) = p := by
              rw [List.take_of_length_le (by have := HN5.out.1; omega), count_parted (HK5.out.ok.ord.upto _), ← HP.out.1]
            rw [hcp]
            have hpk : p ≤ k := by rw [← hcp]; refine Nat.le_trans (List.countP_le_length) ?_; rw [List.length_take]; omega
            have hpc : p ≤ c5 := Nat.le_trans hpk HN5.out.2.1
            have hq0 : (0 : Int) ≤ (p : Int) := by omega
            have hq1 : (p : Int) ≤ (c5 : Int) := by omega
            have hq2 : (p : Int).toNat = p := Int.toNat_natCast p
            have hlt : (x.taken.take p).length = p := by rw [List.length_take]; have := HN5.out.1; omega
            have hsame : ∀ W, Below w5.heap.size w5 W → Calls Tryd.prog 12 #[.slice A4 p c4, .slice A5' p c5] W fun e w' => e = .returned (.bool true) ∧ Below W.heap.size W w' := fun W hW => by
              have h1 := Kd.C_below HC45.out hW
              have h2 := Kd.C_below HC5.out hW
              rw [← HP.out.1] at h1
              have h3 := C_take h2 p (by rw [List.length_map]; have := HN5.out.1; omega)
              rw [← List.map_take] at h3
              have h4 := same_calls A4 A5' c4 c5 (x.taken.take p) W h1 (by rw [hlt]; exact HP.out.2.2.1) h3 (by rw [hlt]; exact hpc) (by rw [hlt]; omega)
              rw [hlt] at h4
              exact h4
            have HSame := Aside0.mk (hsame wr HB.out)
            have HEnd : Aside0 (∀ W, Below wr.heap.size wr W → Below w.heap.size w W) := ⟨fun W hW => HB2.out.trans ((HK5.out.bel.trans ((HB.out.trans (hW.mono HB.out.size)).mono HK5.out.bel.size)).mono HB2.out.size)⟩
            clear hsame hlt hcp hpk
            go_wp2_with fail
            refine HSame.out.mono ?_
            rintro r w6 ⟨rfl, hb6⟩
            have HE6 := Aside0.mk (HEnd.out _ hb6)
            clear hb6
            go_wp2
            go_ret
            exact ⟨rfl, HE6.out⟩
end Go.Proofs.YtmmfoeckggpgdaaDoor
