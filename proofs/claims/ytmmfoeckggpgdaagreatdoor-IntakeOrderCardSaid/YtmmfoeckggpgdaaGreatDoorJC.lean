/-
  Who is gone: the walk of the intake's Gone; Texts, Some and Alike. The walk of offered: an intake to which events were offered. Rows of events that are put together out of pieces.
-/
import Derived.Test.YtmmfoeckggpgdaaGreatDoorJ6
import Derived.Test.YtmmfoeckggpgdaaGreatDoorIter
import Derived.Test.YtmmfoeckggpgdaaGreatDoorPOx
import Derived.Test.YtmmfoeckggpgdaaGreatDoorJ1
import Derived.Sort.Walk0
import Derived.Test.YtmmfoeckggpgdaaGreatDoorJB
import Derived.Deep.AppendSrc
set_option linter.unusedSimpArgs false
set_option linter.unusedVariables false
namespace Go.Proofs.YtmmfoeckggpgdaaGreatDoor
open Go.RowKit Go.Lib Go.Maps Go.Sort Go.Proofs.YtmmfoeckggpgdaaGreatDoorW.PrintWords

theorem before_less : ∀ x y : List UInt8, bytesBefore x y = Op.bytesLess x y
  | [], [] => rfl
  | [], b :: y => rfl
  | a :: x, [] => rfl
  | a :: x, b :: y => by
    rw [bytesBefore, Op.bytesLess, before_less x y]
theorem before_lt {x y : List UInt8} (h : bytesBefore x y = true) : x < y := by
  rw [before_less, Go.Proofs.bytesLess_eq, decide_eq_true_iff] at h
  exact h
/-- the keys of a map, as they stand -/
def keysL {α : Type} (L : List (ByteArray × α)) : List ByteArray := L.map (·.1)
theorem keys_sorted {α : Type} {L : List (ByteArray × α)} (h : Rising L) (ss : List (List UInt8)) (hp : ss.Perm (L.map fun p => p.1.data.toList)) : ss.mergeSort (fun x y => decide (x ≤ y)) = L.map fun p => p.1.data.toList := by
  refine List.Perm.eq_of_pairwise (le := fun a b => a ≤ b) (fun a b _ _ h1 h2 => List.le_antisymm h1 h2) ?_ ?_ ((List.mergeSort_perm ss _).trans hp)
  · refine (List.pairwise_mergeSort (le := fun x y => decide (x ≤ y)) (fun a b c h1 h2 => ?_) (fun a b => ?_) ss).imp (fun h => of_decide_eq_true h)
    · rw [decide_eq_true_iff] at *
      exact List.le_trans h1 h2
    · rw [Bool.or_eq_true, decide_eq_true_iff, decide_eq_true_iff]
      exact List.le_total a b
  · rw [List.pairwise_map]
    exact List.Pairwise.imp (fun {p q} hpq => List.le_of_lt (before_lt hpq)) h
theorem strKeys_mapD {α : Type} (mk : α → Value) (L : List (ByteArray × α)) : strKeys (mapD (L.map (sh mk))) = L.map fun p => p.1.data.toList := by
  simp [strKeys, mapD, sh, kLit, strOf, List.map_map]
theorem own_strs {w : World} {base : Nat} {v : Value} {l : List ByteArray} (h : w.ownsRow base 9 1 v l.length (l.map Value.string)) : ∃ A c, v = .slice A l.length c ∧ l.length ≤ c ∧ c ≤ maxLen ∧ Kd.C Kd.string w A l.length l := by
  rcases h.2 with ⟨rfl, h0⟩ | ⟨g, c, cur, rfl, hb, hg, hn, hm, hz, ht⟩
  · exact ⟨none, 0, by rw [h0], by omega, by unfold maxLen; omega, rfl, by omega, fun hn => by omega⟩
  · refine ⟨some ⟨g, 0, none⟩, c, rfl, hn, hm, rfl, by unfold maxLen at hm; omega, fun _ => ⟨_, rfl, fun j p hj => ⟨[.string p], rfl, rfl, fun i u hu => ?_⟩⟩⟩
    match i, hu with
    | 0, hu =>
      obtain rfl := Option.some.inj hu
      obtain ⟨hjl, rfl⟩ := List.getElem?_eq_some_iff.1 hj
      have hs : Kd.string.sz = 1 := rfl
      rw [hs, Nat.mul_one, Nat.add_zero, add_plain, blk_cell hg]
      have h1 : (cur.toList.take (l.length * 1))[j]? = some (.string l[j]) := by rw [ht]; simp [hjl]
      rw [List.getElem?_take] at h1
      split at h1
      · simpa using h1
      · cases h1
def GonePost (l : List ByteArray) (w : World) (e : Ending) (W : World) : Prop := ∃ A c, e = .returned (.slice A l.length c) ∧ l.length ≤ c ∧ c ≤ maxLen ∧ Kd.C Kd.string W A l.length l ∧ Below w.heap.size w W
theorem inGone_calls (base : Nat) (y : Lay) (x : In) (w : World) (h : InAt w base y x) (hn : y.mn ≤ 1000000000) : Calls Tryz.prog 17 #[.pointer (some ⟨y.g, 0, none⟩)] w fun e W => GonePost (keysL x.gone) w e W := by
  obtain ⟨p0, p1, p2, p3, p4, ps⟩ := five h.blk
  have hle : x.gone.length ≤ 1000000000 := Nat.le_trans h.gone.le hn
  have hsz : Maps.size (mapD (x.gone.map (sh boolV))) = x.gone.length := by rw [size_mapD, List.length_map]
  have hS := callsIn_wide.1 (Tryz.slices_Sorted_keys_47_48 y.mb y.mn _ vR w h.gone.own (by rw [hsz]; unfold maxLen; omega) (by rw [hsz]; omega))
  have HS := Aside0.mk hS
  have HK := Aside0.mk (callsIn_wide.1 (Tryz.maps_Keys_48 (some y.mb) w))
  have HR := Aside0.mk (And.intro h.gone.rise hle)
  clear h hS hsz hle hn
  go_enter Tryz.func17, Tryz.ntmps17
  go_wp2_with fail
  refine HK.out.mono ?_
  rintro e w1 ⟨rfl, rfl⟩
  go_wp2_with fail
  refine HS.out.mono ?_
  rintro e w2 ⟨v, ss, rfl, hp, ho, -, hb⟩
  rw [strKeys_mapD] at hp
  have hl : ss.length = (keysL x.gone).length := by rw [hp.length_eq]; simp [keysL]
  have he : (ss.mergeSort (fun x y => decide (x ≤ y))).map encStr = (keysL x.gone).map Value.string := by
    rw [keys_sorted HR.out.1 ss hp]
    simp [keysL, encStr]
  rw [he, hl] at ho
  obtain ⟨A, c, rfl, hlc, hcm, hC⟩ := own_strs ho
  have HF : Aside0 (GonePost (keysL x.gone) w (.returned (.slice A (keysL x.gone).length c)) w2) := ⟨A, c, rfl, hlc, hcm, hC, (below_alloc (Below.refl _ _) _).trans (hb.mono (by show w.heap.size ≤ (w.heap.push _).size; rw [Array.size_push]; omega))⟩
  obtain ⟨n, hnn⟩ : ∃ n, n = (keysL x.gone).length := ⟨_, rfl⟩
  rw [← hnn] at HF ⊢
  clear hp hl he ho hlc hcm hC hb hnn HS HK p0 p1 p2 p3 p4 ps
  go_wp2
  go_ret
  exact HF.out
/-! ### Texts -/
theorem texts_loop (l : List ByteArray) (hn : l.length ≤ 1000000000) : ∀ d i, i + d = l.length → PO.ciceroneref02_Texts.l0 (d + 1) l l i = some true
  | 0, i, h => by
    unfold PO.ciceroneref02_Texts.l0
    rw [if_neg (by omega)]
  | d + 1, i, h => by
    unfold PO.ciceroneref02_Texts.l0
    rw [if_pos (by omega), if_pos (by omega), if_pos (by omega), if_pos rfl, show wrap64 ((i : Int) + 1) = ((i + 1 : Nat) : Int) by unfold wrap64; omega]
    exact texts_loop l hn d (i + 1) (by omega)
theorem texts_calls (A A' : Option Addr) (c c' : Nat) (l : List ByteArray) (w : World) (h : Kd.C Kd.string w A l.length l) (hc : l.length ≤ c) (h' : Kd.C Kd.string w A' l.length l) (hc' : l.length ≤ c') (hn : l.length ≤ 1000000000) :
    Calls Tryz.prog 16 #[.slice A l.length c, .slice A' l.length c'] w fun e w' => e = .returned (.bool true) ∧ Below w.heap.size w w' := by
  refine (PO.ciceroneref02_Texts.calls (l.length + 1) A c l A' c' l true w h hc h' hc' ?_).mono (fun e W ⟨h1, h2⟩ => ⟨h1, h2.below⟩)
  unfold PO.ciceroneref02_Texts.f
  rw [if_pos rfl]
  exact texts_loop l hn _ 0 (by simp)
/-! ### Some -/
abbrev SE := PO.S28
def evSe (e : Ev) : SE := ⟨e.source, e.number, e.at_, e.kind, e.person, e.item, e.value, e.text⟩
def bigS (x : SE) : Bool := decide (300 < x.f0.size) || (decide (300 < x.f4.size) || (decide (300 < x.f5.size) || decide (300 < x.f7.size)))
theorem bigS_f (x : SE) : PO.ciceroneref02_Big.f x.f0 x.f1 x.f2 x.f3 x.f4 x.f5 x.f6 x.f7 300 = some (bigS x) := by
  unfold PO.ciceroneref02_Big.f bigS
  by_cases h0 : 300 < x.f0.size
  · rw [if_pos (by omega), decide_eq_true h0]; rfl
  rw [if_neg (by omega), decide_eq_false h0]
  by_cases h4 : 300 < x.f4.size
  · rw [if_pos (by omega), decide_eq_true h4]; rfl
  rw [if_neg (by omega), decide_eq_false h4]
  by_cases h5 : 300 < x.f5.size
  · rw [if_pos (by omega), decide_eq_true h5]; rfl
  rw [if_neg (by omega), decide_eq_false h5]
  congr 1
  simp only [Bool.false_or]
  by_cases h7 : 300 < x.f7.size
  · rw [decide_eq_true h7, decide_eq_true (by omega)]
  · rw [decide_eq_false h7, decide_eq_false (by omega)]
theorem some_loop (l : List SE) (hn : l.length ≤ 1000000000000) : ∀ d i, i + d = l.length → PO.ciceroneref02_Some.l0 (d + 1) l 300 i = some ((l.drop i).any bigS)
  | 0, i, h => by
    unfold PO.ciceroneref02_Some.l0
    rw [if_neg (by omega), List.drop_of_length_le (by omega)]; rfl
  | d + 1, i, h => by
    have hil : i < l.length := by omega
    have e1 : PO.rd_T28 l (i : Int) = l[i] := by unfold PO.rd_T28; simp [hil]
    unfold PO.ciceroneref02_Some.l0
    rw [if_pos (by omega), if_pos (by omega), e1, bigS_f, show wrap64 ((i : Int) + 1) = ((i + 1 : Nat) : Int) by unfold wrap64; omega, List.drop_eq_getElem_cons hil, List.any_cons, Option.bind_some]
    cases bigS l[i]
    · rw [if_neg (by simp), some_loop l hn d (i + 1) (by omega)]; rfl
    · rw [if_pos rfl]; rfl
theorem some_calls (A : Option Addr) (c : Nat) (l : List SE) (w : World) (h : Kd.C PO.k28 w A l.length l) (hc : l.length ≤ c) (hn : l.length ≤ 1000000000000) :
    Calls Tryz.prog 11 #[.slice A l.length c, .int .i64 300] w fun e w' => e = .returned (.bool (l.any bigS)) ∧ Below w.heap.size w w' := by
  refine PO.ciceroneref02_Some.calls (l.length + 1) A c l 300 _ w h hc ?_
  unfold PO.ciceroneref02_Some.f
  exact some_loop l hn l.length 0 (by omega)
end Go.Proofs.YtmmfoeckggpgdaaGreatDoor
set_option linter.unusedSimpArgs false
set_option linter.unusedVariables false
namespace Go.Proofs.YtmmfoeckggpgdaaGreatDoor
open Go.RowKit Go.Lib Go.Maps Go.Proofs.YtmmfoeckggpgdaaGreatDoorW.PrintWords

def shortE (e : Ev) : Prop := e.source.size ≤ 300 ∧ e.person.size ≤ 300 ∧ e.item.size ≤ 300 ∧ e.text.size ≤ 300
def OfferedPost (slack : Int) (l : List Ev) (w : World) (r : Ending) (W : World) : Prop := ∃ y x f, r = .returned (.tuple #[.pointer (some ⟨y.g, 0, none⟩), .bool f]) ∧ Kept1 w W w.heap.size y x l.length ∧ Offs (emptyIn slack 0) l f x
theorem results13 : Tryz.f13.results = #[.tmp 4, .tmp 5] := by kernel_rfl
set_option maxRecDepth 100000 in
set_option maxHeartbeats 4000000 in
theorem offered_calls (slack m : Int) (A : Option Addr) (c : Nat) (l : List Ev) (w : World) (h : EvsIn w A l) (hc : l.length ≤ c) (hn : l.length ≤ 1000) (hs : ∀ e ∈ l, shortE e) (hm : w.cell? ⟨0, 0, none⟩ = some (.int .i64 m)) :
    Calls Tryz.prog 13 #[.int .i64 slack, .slice A l.length c] w fun r W => OfferedPost slack l w r W := by
  have H := Aside0.mk h
  have HM := Aside0.mk hm
  have HS := Aside0.mk hs
  obtain ⟨n, hnn⟩ : ∃ n, n = l.length := ⟨_, rfl⟩
  rw [← hnn] at hc hn ⊢
  have HN := Aside0.mk hnn
  clear h hm hs hnn
  go_enter Tryz.func13, Tryz.ntmps13
  go_wp2_with fail
  refine (inNew_calls w.heap.size slack 0 w (Nat.le_refl _)).mono ?_
  intro r w3 hr
  obtain ⟨y0, rfl, hk⟩ := hr.kept
  have HK0 := Aside0.mk hk
  clear hr hk
  obtain ⟨g, hg⟩ : ∃ g, g = y0.g := ⟨_, rfl⟩
  have HG := Aside0.mk hg.symm
  rw [← hg]
  clear hg
  go_wp2_with fail
  go_loopw [8, 7] (fun i fv wr => ∃ (k : Nat) (f : Bool) (y : Lay) (x : In), i = .int .i64 k ∧ fv = .bool f ∧ k ≤ n ∧ Aside0 (y.g = g) ∧ Aside0 (Kept1 w wr w.heap.size y x k) ∧ Aside0 (Offs (emptyIn slack 0) (l.take k) f x)) (fun i _ _ => n - (intOf i).toNat)
  case atStart => exact ⟨0, true, y0, _, rfl, rfl, Nat.zero_le _, HG, HK0, ⟨by rw [List.take_zero]; exact Offs.nil⟩⟩
  case round =>
    obtain ⟨k, f, y, x, rfl, rfl, hk, HY, HK, HO⟩ := hrel
    by_cases hlt : k < n
    · obtain ⟨ad, hA, hcell⟩ := H.out (by have := HN.out; omega)
      subst hA
      have hkl : k < l.length := by have := HN.out; omega
      obtain ⟨a0, a1, a2, a3, a4, a5, a6, a7⟩ := hcell k hkl
      have HT := Aside0.mk (List.take_succ_eq_append_getElem hkl)
      have HX := Aside0.mk (HS.out l[k] (List.getElem_mem hkl))
      obtain ⟨e, he⟩ : ∃ e, e = l[k] := ⟨_, rfl⟩
      rw [← he] at a0 a1 a2 a3 a4 a5 a6 a7 HT HX
      have a0 := pw_cell_below HK.out.bel a0
      have a1 := pw_cell_below HK.out.bel a1
      have a2 := pw_cell_below HK.out.bel a2
      have a3 := pw_cell_below HK.out.bel a3
      have a4 := pw_cell_below HK.out.bel a4
      have a5 := pw_cell_below HK.out.bel a5
      have a6 := pw_cell_below HK.out.bel a6
      have a7 := pw_cell_below HK.out.bel a7
      clear he hcell hkl
      obtain ⟨s0, s1, s2, s3, s4, s5, s6, s7⟩ := e
      simp only at a0 a1 a2 a3 a4 a5 a6 a7
      have HOf := Aside0.mk (offer_kept ⟨s0, s1, s2, s3, s4, s5, s6, s7⟩ 0 m HK.out HY.out (Nat.le_refl _) HM.out (by have := HX.out.2.2.2; simp only at this ⊢; omega) (by have := HX.out.2.1; simp only at this ⊢; unfold maxLen; omega) (by have := HX.out.1; simp only at this ⊢; unfold maxLen; omega) (by omega))
      go_wp2_with fail
      refine HOf.out.mono ?_
      rintro r w5 ⟨v, y5, x5, rfl, ho, hk5, hg5⟩
      have HK5 := Aside0.mk hk5
      have HY5 := Aside0.mk hg5
      have HO5 : Aside0 (Offs (emptyIn slack 0) (l.take (k + 1)) ((v != 2) && f) x5) := ⟨by rw [HT.out]; exact HO.out.snoc ho⟩
      clear ho hk5 hg5 a0 a1 a2 a3 a4 a5 a6 a7 HOf
      by_cases hv2 : v = 2
      · subst hv2
        go_wp2
        go_roundw
        case rel => exact ⟨k + 1, false, y5, x5, by go_num, rfl, hlt, HY5, HK5, ⟨by have h8 := HO5.out; simpa using h8⟩⟩
        case measure => simp [intOf]; omega
      · have n2 : (v != 2) = true := by simpa using hv2
        have HO6 : Aside0 (Offs (emptyIn slack 0) (l.take (k + 1)) f x5) := ⟨by have h8 := HO5.out; rw [n2, Bool.true_and] at h8; exact h8⟩
        clear hv2
        go_wp2
        go_roundw
        case rel => exact ⟨k + 1, f, y5, x5, by go_num, rfl, hlt, HY5, HK5, HO6⟩
        case measure => simp [intOf]; omega
    · obtain rfl : k = n := by omega
      have HO6 : Aside0 (Offs (emptyIn slack 0) l f x) := ⟨by have h8 := HO.out; rw [List.take_of_length_le (by have := HN.out; omega)] at h8; exact h8⟩
      have HF : Aside0 (OfferedPost slack l w (.returned (.tuple #[.pointer (some ⟨g, 0, none⟩), .bool f])) wr) := ⟨⟨y, x, f, by rw [HY.out], by rw [← HN.out]; exact HK.out, HO6.out⟩⟩
      go_wp2
      go_ret2
      exact HF.out
end Go.Proofs.YtmmfoeckggpgdaaGreatDoor
set_option linter.unusedSimpArgs false
set_option linter.unusedVariables false
namespace Go.Proofs.YtmmfoeckggpgdaaGreatDoor
open Go.RowKit Go.Lib Go.Maps Go.Proofs.YtmmfoeckggpgdaaGreatDoorW.PrintWords Go.Proofs.YtmmfoeckggpgdaaGreatDoor.PE

theorem evsC_index {l : List Ev} {J : Nat} {u : Value} (h : (evsC l)[J]? = some u) : ∃ j i, J = j * 8 + i ∧ i < 8 ∧ ∃ hj : j < l.length, (evC l[j])[i]? = some u := by
  have hJ := (List.getElem?_eq_some_iff.1 h).1
  rw [evsC_len] at hJ
  have hj : J / 8 < l.length := by omega
  refine ⟨J / 8, J % 8, by omega, by omega, hj, ?_⟩
  rw [← evsC_get l (J / 8) hj (J % 8) (by omega), show J / 8 * 8 + J % 8 = J by omega]
  exact h
/-- the cells of events that are read, one behind the other -/
theorem evs_raw {w : World} {ad : Addr} {l : List S28} (h : Kd.C k28 w (some ad) l.length l) : ∀ j u, (evsC (l.map toEv))[j]? = some u → w.cell? (ad.add j) = some u := by
  intro J u hu
  obtain ⟨j, i, rfl, hi, hj, he⟩ := evsC_index hu
  rw [List.length_map] at hj
  obtain ⟨ad', e, hc⟩ := h.2.2 (by omega)
  obtain rfl := Option.some.inj e
  obtain ⟨c, hcl, hK, hcells⟩ := hc j l[j] (List.getElem?_eq_getElem hj)
  obtain rfl := k28_open hK
  refine hcells i u ?_
  rw [List.getElem_map] at he
  exact he
theorem evsC_drop' (l : List Ev) (n : Nat) (hn : n ≤ l.length) : evsC (l.drop n) = (evsC l).drop (n * 8) := by
  have h := evsC_drop (l.take n) (l.drop n)
  rw [List.take_append_drop, List.length_take, Nat.min_eq_left hn] at h
  exact h.symm
theorem evsC_take' (l : List Ev) (n : Nat) (hn : n ≤ l.length) : evsC (l.take n) = (evsC l).take (n * 8) := by
  have h := evsC_take (l.take n) (l.drop n)
  rw [List.take_append_drop, List.length_take, Nat.min_eq_left hn] at h
  exact h.symm
/-- events that can be handed to append -/
def SrcEv (w : World) (x : Value) (l : List Ev) : Prop := (∃ a c, x = .slice (some a) l.length c ∧ ∀ j u, (evsC l)[j]? = some u → w.cell? (a.add j) = some u) ∨ (l = [] ∧ ∃ c, x = .slice none 0 c)
theorem SrcEv.below {w W : World} {x : Value} {l : List Ev} (h : SrcEv w x l) (hb : Below w.heap.size w W) : SrcEv W x l := by
  rcases h with ⟨a, c, e, hc⟩ | h
  · exact .inl ⟨a, c, e, fun j u hu => pw_cell_below hb (hc j u hu)⟩
  · exact .inr h
/-- a piece of events that are read, from a place on -/
theorem src_drop {w : World} {A : Option Addr} {c n : Nat} {l : List S28} (h : Kd.C k28 w A l.length l) (hlc : l.length ≤ c) (hn : n ≤ l.length) : SrcEv w (sliced A n l.length c 8) ((l.map toEv).drop n) := by
  have hl : ((l.map toEv).drop n).length = l.length - n := by rw [List.length_drop, List.length_map]
  cases A with
  | none =>
    have h0 : l.length = 0 := by
      rcases Nat.eq_zero_or_pos l.length with h0 | h0
      · exact h0
      · obtain ⟨ad, e, _⟩ := h.2.2 h0; cases e
    refine .inr ⟨List.drop_eq_nil_of_le (by rw [List.length_map]; omega), c - n, ?_⟩
    unfold sliced
    rw [show l.length - n = 0 by omega]
    split <;> rfl
  | some ad =>
    by_cases hc : c = n
    · refine .inl ⟨ad, c - n, by unfold sliced; rw [if_pos hc, hl], fun j u hu => ?_⟩
      rw [evsC_drop' _ _ (by rw [List.length_map]; exact hn), List.getElem?_drop] at hu
      have hj := (List.getElem?_eq_some_iff.1 hu).1
      exfalso
      rw [evsC_len, List.length_map] at hj
      omega
    · refine .inl ⟨ad.add (n * 8), c - n, by unfold sliced; rw [if_neg hc, hl]; rfl, fun j u hu => ?_⟩
      rw [evsC_drop' _ _ (by rw [List.length_map]; exact hn), List.getElem?_drop] at hu
      rw [Deep.add_add]
      exact evs_raw h (n * 8 + j) u hu
theorem src_take {w : World} {A : Option Addr} {c n : Nat} {l : List S28} (h : Kd.C k28 w A l.length l) (hn : n ≤ l.length) : SrcEv w (sliced A 0 n c 8) ((l.map toEv).take n) := by
  have hl : ((l.map toEv).take n).length = n := by rw [List.length_take, List.length_map]; omega
  cases A with
  | none =>
    have h0 : l.length = 0 := by
      rcases Nat.eq_zero_or_pos l.length with h0 | h0
      · exact h0
      · obtain ⟨ad, e, _⟩ := h.2.2 h0; cases e
    obtain rfl : n = 0 := by omega
    refine .inr ⟨rfl, c, ?_⟩
    unfold sliced
    split <;> rfl
  | some ad =>
    refine .inl ⟨ad, c, ?_, fun j u hu => ?_⟩
    · unfold sliced
      rw [hl]
      split
      · simp
      · simp [Addr.add]
    · rw [evsC_take' _ _ (by rw [List.length_map]; exact hn), List.getElem?_take] at hu
      split at hu
      · exact evs_raw h j u hu
      · cases hu
/-- events are put behind a row of one's own -/
theorem append_evs (base b q : Nat) (old l : List Ev) (x : Value) (w : World) (hown : EvAt w base (.slice (some ⟨b, 0, none⟩) old.length q) old) (hx : SrcEv w x l) (hbig : (old.length + l.length) * 96 ≤ 140737488355328) (hbase : base ≤ w.heap.size) :
    ∃ b' q' w', (Builtin.append_ #[22, 22] 22 #[.slice (some ⟨b, 0, none⟩) old.length q, x]).run Tryz.prog w = .ok (.slice (some ⟨b', 0, none⟩) (old.length + l.length) q') w' ∧ EvAt w' base (.slice (some ⟨b', 0, none⟩) (old.length + l.length) q') (old ++ l) ∧ w.grownBy w' (some b) := by
  obtain ⟨i0, hi0, hz0, hzs, hzb⟩ := info_parts ei_info
  rcases hx with ⟨a, c, rfl, hc⟩ | ⟨rfl, c, rfl⟩
  · obtain ⟨v', w', hr, ho, hg, hnil, -⟩ := run_append_own_at (P := Tryz.prog) w base 22 22 28 i0 _ 8 96 Tryz.underlying22 hi0 hz0 hzs hzb rfl (by decide) (.slice (some ⟨b, 0, none⟩) old.length q) old.length (evsC old) hown a l.length c (evsC l) (evsC_len l) hc evsC_one (by unfold maxLen; omega) hbig hbase
    rcases ho.2 with ⟨e, _⟩ | ⟨g, c', cur, rfl, r⟩
    · rw [hnil] at e; cases e.1
    · refine ⟨g, c', w', hr, ?_, hg⟩
      unfold EvAt
      rw [List.length_append, evsC_append]
      exact ho
  · refine ⟨b, q, w, ?_, by rw [List.append_nil, List.length_nil, Nat.add_zero]; exact hown, World.grownBy.refl _ _⟩
    obtain ⟨cur, hbg, hg, hnc, hcm, hcz, htk⟩ := own_block hown
    have h8 := run_append_room_src (P := Tryz.prog) (w := w) 22 22 22 28 i0 Tryz.underlying22 hi0 b 0 old.length q (.slice none 0 c) 0 [] (Src.ofNil w Tryz.underlying22 c) (by omega) (fun j hj => by cases hj) (fun j hj => by cases hj)
    rw [h8]
    rfl
theorem evAt_evsIn {w : World} {base : Nat} {v : Value} {l : List Ev} {A : Option Addr} {c : Nat} (h : EvAt w base v l) (hv : v = .slice A l.length c) : EvsIn w A l := fun hn => by
  obtain ⟨A', c', hv', -, -, hr⟩ := h.form
  rw [hv'] at hv
  injection hv with h1 _ _
  obtain ⟨g, e, _, _, hcell, _⟩ := hr hn
  refine ⟨⟨g, 0, none⟩, by rw [← h1]; exact e, fun j hj => ?_⟩
  have ha : ∀ q : Nat, (⟨g, 0, none⟩ : Addr).add q = ⟨g, q, none⟩ := fun q => by rw [add_plain]
  rw [ha]
  obtain ⟨c0, c1, c2, c3, c4, c5, c6, c7⟩ := hcell j hj
  exact ⟨c0, c1, c2, c3, c4, c5, c6, c7⟩
/-- what the print reads, out of cells -/
theorem evsIn_PO {w : World} {A : Option Addr} {l : List Ev} (h : EvsIn w A l) (hn : l.length ≤ 1000000000000) : Kd.C PO.k28 w A (l.map evSe).length (l.map evSe) := by
  refine ⟨rfl, by rw [List.length_map]; omega, fun hl => ?_⟩
  rw [List.length_map] at hl
  obtain ⟨ad, e, hc⟩ := h hl
  refine ⟨ad, e, fun j p hj => ?_⟩
  rw [List.getElem?_map] at hj
  obtain ⟨x, hx, rfl⟩ := Option.map_eq_some_iff.1 hj
  obtain ⟨hjl, rfl⟩ := List.getElem?_eq_some_iff.1 hx
  obtain ⟨c0, c1, c2, c3, c4, c5, c6, c7⟩ := hc j hjl
  refine ⟨_, rfl, PO.k28_mk w (evSe l[j]), fun i u hu => ?_⟩
  have hsz : PO.k28.sz = 8 := rfl
  rw [hsz]
  match i, hu with
  | 0, hu => obtain rfl := Option.some.inj hu; exact c0
  | 1, hu => obtain rfl := Option.some.inj hu; rw [add_field _ _ 1 (by omega)]; exact c1
  | 2, hu => obtain rfl := Option.some.inj hu; rw [add_field _ _ 2 (by omega)]; exact c2
  | 3, hu => obtain rfl := Option.some.inj hu; rw [add_field _ _ 3 (by omega)]; exact c3
  | 4, hu => obtain rfl := Option.some.inj hu; rw [add_field _ _ 4 (by omega)]; exact c4
  | 5, hu => obtain rfl := Option.some.inj hu; rw [add_field _ _ 5 (by omega)]; exact c5
  | 6, hu => obtain rfl := Option.some.inj hu; rw [add_field _ _ 6 (by omega)]; exact c6
  | 7, hu => obtain rfl := Option.some.inj hu; rw [add_field _ _ 7 (by omega)]; exact c7
theorem big_short {l : List Ev} (h : (l.map evSe).any bigS = false) : ∀ e ∈ l, shortE e := fun e he => by
  rw [List.any_eq_false] at h
  have h2 := h (evSe e) (List.mem_map_of_mem he)
  unfold bigS evSe at h2
  simp only [Bool.or_eq_true, decide_eq_true_eq, not_or] at h2
  unfold shortE
  omega
end Go.Proofs.YtmmfoeckggpgdaaGreatDoor
