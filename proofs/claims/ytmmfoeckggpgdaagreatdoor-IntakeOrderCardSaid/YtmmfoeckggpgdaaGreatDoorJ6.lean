/-
  The walk of lives, the chapter's example. Rows of events as the print reads them; Same and Heavy.
-/
import Derived.Test.YtmmfoeckggpgdaaGreatDoorJ5
import Derived.Test.YtmmfoeckggpgdaaGreatDoorJ4
set_option linter.unusedSimpArgs false
set_option linter.unusedVariables false
namespace Go.Proofs.YtmmfoeckggpgdaaGreatDoor
open Go.RowKit Go.Lib Go.Maps Go.Proofs.YtmmfoeckggpgdaaGreatDoorW.PrintWords

def exE (n at_ : Int) : Ev := ⟨⟨#[97]⟩, n, at_, 14, ⟨#[112]⟩, ⟨#[]⟩, 0, ⟨#[]⟩⟩
theorem exE_may1 : mayB (exE 1 5) = true := by decide +kernel
theorem exE_may2 : mayB (exE 2 4) = true := by decide +kernel
theorem exE_may3 : mayB (exE 1 9) = true := by decide +kernel
def exC : Clk := hearC (tickC (newC 0 0) 0) ⟨#[97]⟩ 5 0
theorem exC_hears : hearsB (tickC (newC 0 0) 0) ⟨#[97]⟩ 5 0 = true := by decide +kernel
theorem exC_mark : exC.mark = 4 := by decide +kernel
theorem exC_not : hearsB (tickC exC 0) ⟨#[97]⟩ 4 0 = false := by decide +kernel
theorem InOk.new (slack idle : Int) : InOk (emptyIn slack idle) 0 := ⟨List.Pairwise.nil, (by intro e he; cases he), Nat.le_refl _, Nat.le_refl _⟩
theorem hasS_nil (s : ByteArray) (n : Int) : hasS [] s n = false := rfl
theorem lookB_eq {x : In} {e : Ev} (h1 : mayB e = true) (h2 : ((getL x.gone e.person).getD false && (e.kind != 14)) = false) : lookB x e = if hasS x.had e.source e.number = true then 1 else 0 := by
  unfold lookB; rw [h1, h2]; rfl
theorem takeP_had (x : In) (e : Ev) (had' : List (ByteArray × Row)) : (takeP x e had').had = had' := by unfold takeP; split <;> rfl
theorem ex1 {v : Int} {x' : In} (h : Offered (emptyIn 0 0) (exE 1 5) 0 v x') : v = 0 ∧ x'.clk = exC ∧ ∀ s n, hasS x'.had s n = decide (s = ⟨#[97]⟩ ∧ n = 1) := by
  have hl : lookB (emptyIn 0 0) (exE 1 5) = 0 := by
    rw [lookB_eq exE_may1 (by simp [exE])]
    rfl
  rcases h with ⟨h0, _⟩ | ⟨_, _, h1, had', hm, rfl⟩ | ⟨_, h2, _⟩
  · exact absurd hl h0
  · refine ⟨h1, by rw [takeP_clk]; rfl, fun s n => ?_⟩
    rw [takeP_had, hm s n]
    show (_ || hasS [] s n) = _
    rw [hasS_nil, Bool.or_false]
    rfl
  · have := exC_hears
    rw [show (emptyIn 0 0).clk = newC 0 0 from rfl] at h2
    have h3 : hearsB (tickC (newC 0 0) 0) ⟨#[97]⟩ 5 0 = false := h2
    rw [this] at h3; cases h3
theorem ex2 {x x' : In} {v : Int} (hc : x.clk = exC) (hh : ∀ s n, hasS x.had s n = decide (s = ⟨#[97]⟩ ∧ n = 1)) (h : Offered x (exE 2 4) 0 v x') : v = 2 ∧ ∀ s n, hasS x'.had s n = decide (s = ⟨#[97]⟩ ∧ n = 1) := by
  have hl : lookB x (exE 2 4) = 0 := by
    rw [lookB_eq exE_may2 (by simp [exE]), hh]
    rfl
  rcases h with ⟨h0, _⟩ | ⟨_, h1, _⟩ | ⟨_, _, h2, rfl⟩
  · exact absurd hl h0
  · rw [hc] at h1
    have h3 : hearsB (tickC exC 0) ⟨#[97]⟩ 4 0 = true := h1
    rw [exC_not] at h3; cases h3
  · exact ⟨h2, hh⟩
theorem ex3 {x x' : In} {v : Int} (hh : ∀ s n, hasS x.had s n = decide (s = ⟨#[97]⟩ ∧ n = 1)) (h : Offered x (exE 1 9) 0 v x') : v = 1 := by
  have hl : lookB x (exE 1 9) = 1 := by
    rw [lookB_eq exE_may3 (by simp [exE]), hh]
    rfl
  rcases h with ⟨_, h1, _⟩ | ⟨h0, _⟩ | ⟨h0, _⟩
  · rw [h1, hl]
  · rw [hl] at h0; cases h0
  · rw [hl] at h0; cases h0
theorem results44 : Tryz.f44.results = #[.cell 4 28] := by kernel_rfl
theorem exF_calls (n at_ : Int) (w : World) : Calls Tryz.prog 44 #[.int .i64 n, .int .i64 at_] w fun e w' => e = .returned (evV (exE n at_)) ∧ Below w.heap.size w w' := by
  go_enter Tryz.func44, Tryz.ntmps44
  go_wp2
  refine bodyPost_ret (v := evV (exE n at_)) (results_cell_row results44 _ _ w.heap.size 28 _ (0, 0) _ rfl (heap_alloc_new w _) Tryz.underlying28 rfl (by kernel_rfl)) rfl ⟨rfl, below_alloc (Below.refl _ _) _⟩
/-- an intake that was made behind w0, and to which events were offered -/
structure Kept1 (w0 W : World) (base : Nat) (y : Lay) (x : In) (N : Nat) : Prop where
  at_ : InAt W base y x
  ok : InOk x N
  cn : y.cn ≤ 2 * N
  sn : y.sn ≤ 2 * N
  mn : y.mn ≤ 2 * N
  new : ∀ k, y.lab k ≤ 5 → w0.heap.size ≤ k
  bel : Below w0.heap.size w0 W
theorem Kept1.below {w0 W W' : World} {base N : Nat} {y : Lay} {x : In} (h : Kept1 w0 W base y x N) (hb : Below W.heap.size W W') : Kept1 w0 W' base y x N := ⟨h.at_.below hb, h.ok, h.cn, h.sn, h.mn, h.new, h.bel.trans (hb.mono h.bel.size)⟩
theorem Kept1.step {w0 w W : World} {base N : Nat} {y y' : Lay} {x x' : In} (h : Kept1 w0 w base y x N) (hs : InStep base w y W y' x') (ho : InOk x' (N + 1)) : Kept1 w0 W base y' x' (N + 1) := by
  have h1 := h.cn; have h2 := h.sn; have h3 := h.mn; have h4 := hs.cn; have h5 := hs.sn; have h6 := hs.mn
  refine ⟨hs.at_, ho, by omega, by omega, by omega, fun k hk => ?_, ?_⟩
  · rcases hs.lab k hk with h8 | h8
    · exact h.new k h8
    · exact Nat.le_trans h.bel.size h8
  · exact h.bel.trans (hs.fr.toBelow h.bel.size (fun k hk => h.new k hk))
theorem NewPost.kept {base : Nat} {slack idle : Int} {w : World} {e : Ending} {W : World} (h : NewPost base slack idle w e W) : ∃ y : Lay, e = .returned (.pointer (some ⟨y.g, 0, none⟩)) ∧ Kept1 w W base y (emptyIn slack idle) 0 := by
  obtain ⟨y, h1, h2, h3, h4, h5, h6, h7⟩ := h
  exact ⟨y, h1, h2, InOk.new _ _, by omega, by omega, by omega, h6, h7⟩
theorem offer_kept {w0 w : World} {base N g : Nat} {y : Lay} {x : In} (e : Ev) (now m : Int) (h : Kept1 w0 w base y x N) (hg : y.g = g) (hbase : base ≤ w0.heap.size) (hm : w0.cell? ⟨0, 0, none⟩ = some (.int .i64 m)) (htx : e.text.size < 4294967281) (hps : e.person.size ≤ maxLen) (hss : e.source.size ≤ maxLen) (hN : N ≤ 1000000) :
    Calls Tryz.prog 21 #[.pointer (some ⟨g, 0, none⟩), evV e, .int .i64 now] w fun r W => ∃ v y' x', r = .returned (.int .i64 v) ∧ Offered x e now v x' ∧ Kept1 w0 W base y' x' (N + 1) ∧ y'.g = g := by
  subst hg
  have hlt : 0 < w0.heap.size := World.block_lt_of_cell? w0 _ hm
  have h1 := h.cn; have h2 := h.sn; have h3 := h.mn; have h4 := h.ok.tlen; have h5 := h.ok.llen
  have hc := offer_calls base y x e now m w h.at_ (Nat.le_trans hbase h.bel.size) (pw_cell_below h.bel hm)  htx hps hss (by omega) (by omega) (by omega) (fun hk => by have := h.new 0 hk; omega) h.ok.ord (by omega) (by omega)
  refine hc.mono ?_
  rintro r W ⟨v, y', x', h6, h7, h8⟩
  exact ⟨v, y', x', h6, h7, h.step h8 (h7.ok h.ok), h8.g⟩
set_option maxHeartbeats 1000000 in
set_option maxRecDepth 100000 in
theorem lives_calls (m : Int) (w : World) (hm : w.cell? ⟨0, 0, none⟩ = some (.int .i64 m)) : Calls Tryz.prog 10 #[] w fun e w' => e = .returned (.bool true) ∧ Below w.heap.size w w' := by
  have HM := Aside0.mk hm
  clear hm
  go_enter Tryz.func10, Tryz.ntmps10
  go_wp2_with fail
  refine (inNew_calls w.heap.size 0 0 w (Nat.le_refl _)).mono ?_
  intro r w1 hr
  obtain ⟨y, rfl, hk⟩ := hr.kept
  have HK1 := Aside0.mk hk
  clear hr hk
  have hn : ∀ W : World, (Go.binOp .eql 29 (.pointer (some ⟨y.g, 0, none⟩)) (.pointer none)).run Tryz.prog W = .ok (.bool false) W := fun _ => rfl
  go_wp2_with fail
  refine (exF_calls 1 5 w1).mono ?_
  rintro r w2 ⟨rfl, hb2⟩
  have HK2 := Aside0.mk (HK1.out.below hb2)
  clear hb2 HK1
  go_wp2_with fail
  refine (offer_kept (exE 1 5) 0 m HK2.out rfl (Nat.le_refl _) HM.out (by decide) (by decide) (by decide) (by decide)).mono ?_
  rintro r w3 ⟨v3, y3, x3, rfl, ho3, hk3, hg3⟩
  have HK3 := Aside0.mk hk3
  obtain ⟨rfl, hc3, hh3⟩ := ex1 ho3
  have HX3 := Aside0.mk (And.intro hc3 hh3)
  rw [← hg3]
  clear hk3 ho3 hc3 hh3 hg3 HK2 hn
  go_wp2_with fail
  have hmk := inMark_calls w.heap.size y3 x3 w3 HK3.out.at_
  rw [HX3.out.1, exC_mark] at hmk
  refine hmk.mono ?_
  rintro r w4 ⟨rfl, rfl⟩
  clear hmk
  go_wp2_with fail
  refine (exF_calls 2 4 w4).mono ?_
  rintro r w5 ⟨rfl, hb5⟩
  have HK5 := Aside0.mk (HK3.out.below hb5)
  clear hb5 HK3
  go_wp2_with fail
  refine (offer_kept (exE 2 4) 0 m HK5.out rfl (Nat.le_refl _) HM.out (by decide) (by decide) (by decide) (by decide)).mono ?_
  rintro r w6 ⟨v6, y6, x6, rfl, ho6, hk6, hg6⟩
  have HK6 := Aside0.mk hk6
  obtain ⟨rfl, hh6⟩ := ex2 HX3.out.1 HX3.out.2 ho6
  have HX6 := Aside0.mk hh6
  rw [← hg6]
  clear hk6 ho6 hh6 hg6 HK5 HX3
  go_wp2_with fail
  refine (exF_calls 1 9 w6).mono ?_
  rintro r w7 ⟨rfl, hb7⟩
  have HK7 := Aside0.mk (HK6.out.below hb7)
  clear hb7 HK6
  go_wp2_with fail
  refine (offer_kept (exE 1 9) 0 m HK7.out rfl (Nat.le_refl _) HM.out (by decide) (by decide) (by decide) (by decide)).mono ?_
  rintro r w8 ⟨v8, y8, x8, rfl, ho8, hk8, hg8⟩
  have HK8 := Aside0.mk hk8
  obtain rfl := ex3 HX6.out ho8
  clear hk8 ho8 hg8 HK7 HX6
  go_wp2
  go_ret
  exact ⟨rfl, HK8.out.bel⟩
end Go.Proofs.YtmmfoeckggpgdaaGreatDoor
set_option linter.unusedSimpArgs false
set_option linter.unusedVariables false
namespace Go.Proofs.YtmmfoeckggpgdaaGreatDoor
open Go.RowKit Go.Lib Go.Maps Go.Proofs.YtmmfoeckggpgdaaGreatDoorW.PrintWords Go.Proofs.YtmmfoeckggpgdaaGreatDoor.PE

def ofEv (e : Ev) : S28 := ⟨e.source, e.number, e.at_, e.kind, e.person, e.item, e.value, e.text⟩
def toEv (x : S28) : Ev := ⟨x.f0, x.f1, x.f2, x.f3, x.f4, x.f5, x.f6, x.f7⟩
theorem evAt_C {w : World} {base : Nat} {v : Value} {l : List Ev} (h : EvAt w base v l) : ∃ A c, v = .slice A l.length c ∧ l.length ≤ c ∧ c ≤ maxLen ∧ Kd.C k28 w A (l.map ofEv).length (l.map ofEv) := by
  obtain ⟨A, c, rfl, hl, hc, hr⟩ := h.form
  refine ⟨A, c, rfl, hl, hc, rfl, by rw [List.length_map]; unfold maxLen at hc; omega, fun hn => ?_⟩
  rw [List.length_map] at hn
  obtain ⟨g, rfl, _, _, hcell, _⟩ := hr hn
  refine ⟨⟨g, 0, none⟩, rfl, fun j p hj => ?_⟩
  rw [List.getElem?_map] at hj
  obtain ⟨e, he, rfl⟩ := Option.map_eq_some_iff.1 hj
  obtain ⟨hjl, rfl⟩ := List.getElem?_eq_some_iff.1 he
  obtain ⟨c0, c1, c2, c3, c4, c5, c6, c7⟩ := hcell j hjl
  refine ⟨_, rfl, k28_mk w (ofEv l[j]), fun i u hu => ?_⟩
  have hsz : k28.sz = 8 := rfl
  rw [hsz]
  have ha : ∀ q : Nat, (⟨g, 0, none⟩ : Addr).add q = ⟨g, q, none⟩ := fun q => by rw [add_plain]
  rw [ha]
  match i, hu with
  | 0, hu => obtain rfl := Option.some.inj hu; exact c0
  | 1, hu => obtain rfl := Option.some.inj hu; exact c1
  | 2, hu => obtain rfl := Option.some.inj hu; exact c2
  | 3, hu => obtain rfl := Option.some.inj hu; exact c3
  | 4, hu => obtain rfl := Option.some.inj hu; exact c4
  | 5, hu => obtain rfl := Option.some.inj hu; exact c5
  | 6, hu => obtain rfl := Option.some.inj hu; exact c6
  | 7, hu => obtain rfl := Option.some.inj hu; exact c7
theorem C_take {α : Type} {d : Kd α} {w : World} {A : Option Addr} {xs : List α} (h : Kd.C d w A xs.length xs) (j : Nat) (hj : j ≤ xs.length) : Kd.C d w A (xs.take j).length (xs.take j) := by
  refine ⟨rfl, Nat.le_trans (by rw [List.length_take]; omega) h.2.1, fun hn => ?_⟩
  rw [List.length_take] at hn
  obtain ⟨ad, e, hc⟩ := h.2.2 (by omega)
  refine ⟨ad, e, fun i p hi => hc i p ?_⟩
  rw [List.getElem?_take] at hi
  split at hi
  · exact hi
  · cases hi
theorem same_loop (l : List S28) (hn : l.length ≤ 1000000000) : ∀ d i, i + d = l.length → ciceroneref02_Same.l0 (d + 1) l l i = some true
  | 0, i, h => by
    unfold ciceroneref02_Same.l0
    rw [if_neg (by omega)]
  | d + 1, i, h => by
    unfold ciceroneref02_Same.l0
    rw [if_pos (by omega), if_pos (by omega), if_pos (by omega), if_neg (by simp), show wrap64 ((i : Int) + 1) = ((i + 1 : Nat) : Int) by unfold wrap64; omega]
    exact same_loop l hn d (i + 1) (by omega)
theorem same_calls (A A' : Option Addr) (c c' : Nat) (l : List Ev) (w : World) (h : Kd.C k28 w A (l.map ofEv).length (l.map ofEv)) (hc : l.length ≤ c) (h' : Kd.C k28 w A' (l.map ofEv).length (l.map ofEv)) (hc' : l.length ≤ c') (hn : l.length ≤ 1000000000) :
    Calls Tryz.prog 14 #[.slice A l.length c, .slice A' l.length c'] w fun e w' => e = .returned (.bool true) ∧ Below w.heap.size w w' := by
  have h8 := ciceroneref02_Same.calls ((l.map ofEv).length + 1) A c (l.map ofEv) A' c' (l.map ofEv) true w h (by rw [List.length_map]; exact hc) h' (by rw [List.length_map]; exact hc') (by
    unfold ciceroneref02_Same.f
    rw [if_pos rfl]
    exact same_loop _ (by rw [List.length_map]; exact hn) _ 0 (by simp))
  rw [List.length_map] at h8
  exact h8.mono (fun e W ⟨h1, h2⟩ => ⟨h1, h2.below⟩)
theorem tick_kept {w0 w : World} {base N g : Nat} {y : Lay} {x : In} (now : Int) (h : Kept1 w0 w base y x N) (hg : y.g = g) :
    Calls Tryz.prog 82 #[.pointer (some ⟨g, 0, none⟩), .int .i64 now] w fun r W => r = .returned (.int .i64 (tickC x.clk now).mark) ∧ Kept1 w0 W base y { x with clk := tickC x.clk now } N := by
  subst hg
  refine (inTick_calls base y x now w h.at_).mono ?_
  rintro r W ⟨rfl, h4, f4⟩
  exact ⟨rfl, h4, h.ok.clk _, h.cn, h.sn, h.mn, h.new, h.bel.trans (f4.toBelow h.bel.size (fun k hk => h.new k (by rw [hk, h.at_.l1 _ (.inl rfl)]; decide)))⟩
theorem mark_kept {w0 w : World} {base N g : Nat} {y : Lay} {x : In} (h : Kept1 w0 w base y x N) (hg : y.g = g) :
    Calls Tryz.prog 45 #[.pointer (some ⟨g, 0, none⟩)] w fun r W => r = .returned (.int .i64 x.clk.mark) ∧ W = w := by
  subst hg
  exact inMark_calls base y x w h.at_
theorem taken_kept {w0 w : World} {base N g : Nat} {y : Lay} {x : In} (h : Kept1 w0 w base y x N) (hg : y.g = g) (hN : N ≤ 1000000) :
    Calls Tryz.prog 15 #[.pointer (some ⟨g, 0, none⟩)] w fun e W => ClonePost x.taken w e W := by
  subst hg
  exact inTaken_calls base y x w h.at_ (by have := h.ok.tlen; omega)
theorem settled_kept {w0 w : World} {base N g : Nat} {y : Lay} {x : In} (h : Kept1 w0 w base y x N) (hg : y.g = g) (hN : N ≤ 1000000) :
    Calls Tryz.prog 60 #[.pointer (some ⟨g, 0, none⟩)] w fun e W => ClonePost (x.taken.take (posW (uptoB x.clk.mark) x.taken)) w e W := by
  subst hg
  exact inSettled_calls base y x w h.at_ (h.ok.ord.upto _) (by have := h.ok.tlen; omega)
/-! ### Heavy -/
def bigB (x : S28) : Bool := decide (300 < x.f0.size) || (decide (300 < x.f4.size) || (decide (300 < x.f5.size) || decide (300 < x.f7.size)))
theorem big_f (x : S28) : ciceroneref02_Big.f x.f0 x.f1 x.f2 x.f3 x.f4 x.f5 x.f6 x.f7 300 = some (bigB x) := by
  unfold ciceroneref02_Big.f bigB
  by_cases h0 : 300 < x.f0.size
  · rw [if_pos (by omega), decide_eq_true h0]; rfl
  rw [if_neg (by omega), decide_eq_false h0]
  by_cases h4 : 300 < x.f4.size
  · rw [if_pos (by omega), decide_eq_true h4]; rfl
  rw [if_neg (by omega), decide_eq_false h4]
  by_cases h5 : 300 < x.f5.size
  · rw [if_pos (by omega), decide_eq_true h5]; rfl
  rw [if_neg (by omega), decide_eq_false h5]
  congr 1
  simp only [Bool.false_or]
  by_cases h7 : 300 < x.f7.size
  · rw [decide_eq_true h7, decide_eq_true (by omega)]
  · rw [decide_eq_false h7, decide_eq_false (by omega)]
def heavyB (l : List S83) (most : Nat) : Bool := decide (most < l.length) || l.any (fun d => bigB d.f1)
theorem heavy_loop (l : List S83) (hn : l.length ≤ 1000000000) : ∀ d i, i + d = l.length → ciceronelaw08_Heavy.l0 (d + 1) l i = some ((l.drop i).any (fun d => bigB d.f1))
  | 0, i, h => by
    unfold ciceronelaw08_Heavy.l0
    rw [if_neg (by omega), List.drop_of_length_le (by omega)]; rfl
  | d + 1, i, h => by
    have hil : i < l.length := by omega
    have e1 : rd_T83 l (i : Int) = l[i] := by unfold rd_T83; simp [hil]
    unfold ciceronelaw08_Heavy.l0
    rw [if_pos (by omega), if_pos (by omega), e1, big_f, show wrap64 ((i : Int) + 1) = ((i + 1 : Nat) : Int) by unfold wrap64; omega, List.drop_eq_getElem_cons hil, List.any_cons, Option.bind_some]
    cases bigB l[i].f1
    · rw [if_neg (by simp), heavy_loop l hn d (i + 1) (by omega)]; rfl
    · rw [if_pos rfl]; rfl
theorem heavy_calls (A : Option Addr) (c : Nat) (l : List S83) (most : Nat) (hm : most ≤ 1000000) (w : World) (h : Kd.C k83 w A l.length l) (hc : l.length ≤ c) :
    Calls Tryz.prog 18 #[.slice A l.length c, .int .i64 most] w fun e w' => e = .returned (.bool (heavyB l most)) ∧ Below w.heap.size w w' := by
  refine ciceronelaw08_Heavy.calls (l.length + 1) A c l most _ w h hc ?_
  unfold ciceronelaw08_Heavy.f heavyB
  by_cases hl : most < l.length
  · rw [if_pos (by omega), decide_eq_true hl]; rfl
  · rw [if_neg (by omega), decide_eq_false hl, Bool.false_or]
    exact heavy_loop l (by omega) l.length 0 (by omega)
theorem heavy_not {l : List S83} {most : Nat} (h : heavyB l most = false) : l.length ≤ most ∧ ∀ d ∈ l, d.f1.f0.size ≤ 300 ∧ d.f1.f4.size ≤ 300 ∧ d.f1.f5.size ≤ 300 ∧ d.f1.f7.size ≤ 300 := by
  unfold heavyB at h
  rw [Bool.or_eq_false_iff, decide_eq_false_iff_not, List.any_eq_false] at h
  refine ⟨by omega, fun d hd => ?_⟩
  have h2 := h.2 d hd
  unfold bigB at h2
  simp only [Bool.or_eq_true, decide_eq_true_eq, not_or] at h2
  omega
theorem count_parted {p : Ev → Bool} {l : List Ev} (h : Parted p l) : l.countP p = posW p l := by
  obtain ⟨h1, h2⟩ := take_posW p l
  have hle := posW_le p l
  have e : l = l.take (posW p l) ++ l.drop (posW p l) := (List.take_append_drop _ _).symm
  generalize posW p l = n at *
  have e1 : (l.take n).countP p = n := by
    rw [List.countP_eq_length.2 h1, List.length_take]; omega
  have e2 : (l.drop n).countP p = 0 := by
    rw [List.countP_eq_zero]
    intro a ha hpa
    obtain ⟨k, hk, rfl⟩ := List.mem_iff_getElem.1 ha
    rw [List.getElem_drop] at hpa
    rw [List.length_drop] at hk
    have h3 := h n (n + k) (by omega) (by omega) (by omega) hpa
    rw [h2 (by omega)] at h3; cases h3
  calc l.countP p = (l.take n ++ l.drop n).countP p := by rw [← e]
    _ = n := by rw [List.countP_append, e1, e2]; rfl
end Go.Proofs.YtmmfoeckggpgdaaGreatDoor
