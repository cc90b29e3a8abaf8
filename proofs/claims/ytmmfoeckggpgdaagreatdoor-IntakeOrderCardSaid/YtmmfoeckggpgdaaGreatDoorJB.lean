/-
  The walk of Alike. Whatever order events come in, if none is late the same are taken, plainly.
-/
import Derived.Test.YtmmfoeckggpgdaaGreatDoorJ6
import Derived.Test.YtmmfoeckggpgdaaGreatDoorJ4
import Derived.Test.YtmmfoeckggpgdaaGreatDoorJ1
set_option linter.unusedSimpArgs false
set_option linter.unusedVariables false
namespace Go.Proofs.YtmmfoeckggpgdaaGreatDoor
open Go.RowKit Go.Lib Go.Maps Go.Proofs.YtmmfoeckggpgdaaGreatDoorW.PrintWords Go.Proofs.YtmmfoeckggpgdaaGreatDoor.PE

theorem ev_ext {a b : Ev} (h0 : a.source.toList = b.source.toList) (h1 : a.number = b.number) (h2 : a.at_ = b.at_) (h3 : a.kind = b.kind) (h4 : a.person.toList = b.person.toList) (h5 : a.item.toList = b.item.toList) (h6 : a.value = b.value) (h7 : a.text.toList = b.text.toList) : a = b := by
  cases a; cases b
  simp only at *
  rw [ba_ext h0, h1, h2, h3, ba_ext h4, ba_ext h5, h6, ba_ext h7]
section
attribute [local go_sem high] eqA28
theorem ev_neq (a b : Ev) : ∃ q : Bool, (∀ W, (Go.binOp .neq 28 (evV a) (evV b)).run Tryz.prog W = .ok (.bool q) W) ∧ (q = false → a = b) := by
  refine ⟨!(a.source.toList == b.source.toList && (a.number == b.number && (a.at_ == b.at_ && (a.kind == b.kind && (a.person.toList == b.person.toList && (a.item.toList == b.item.toList && (a.value == b.value && (a.text.toList == b.text.toList)))))))), fun W => ?_, fun h => ?_⟩
  · unfold evV evC
    go_simp
  · simp only [Bool.not_eq_false', Bool.and_eq_true, beq_iff_eq] at h
    exact ev_ext h.1 h.2.1 h.2.2.1 h.2.2.2.1 h.2.2.2.2.1 h.2.2.2.2.2.1 h.2.2.2.2.2.2.1 h.2.2.2.2.2.2.2
end
def rdE (l : List Ev) (i : Nat) : Ev := l.getD i ⟨⟨#[]⟩, 0, 0, 0, ⟨#[]⟩, ⟨#[]⟩, 0, ⟨#[]⟩⟩
/-- two of one identity are one event -/
def okP (l : List Ev) (i j : Nat) : Prop := (rdE l i).source = (rdE l j).source → (rdE l i).number = (rdE l j).number → rdE l i = rdE l j
theorem rdE_lt {l : List Ev} {i : Nat} (h : i < l.length) : rdE l i = l[i] := by simp [rdE, h]
theorem alike_mem {l : List Ev} (h : ∀ i, i < l.length → ∀ j, j < i → okP l i j) : ∀ a ∈ l, ∀ b ∈ l, a.source = b.source → a.number = b.number → a = b := by
  intro a ha b hb h0 h1
  obtain ⟨i, hi, rfl⟩ := List.mem_iff_getElem.1 ha
  obtain ⟨j, hj, rfl⟩ := List.mem_iff_getElem.1 hb
  rcases Nat.lt_trichotomy i j with h2 | rfl | h2
  · have h3 := h j hj i h2
    unfold okP at h3
    rw [rdE_lt hi, rdE_lt hj] at h3
    exact (h3 h0.symm h1.symm).symm
  · rfl
  · have h3 := h i hi j h2
    unfold okP at h3
    rw [rdE_lt hi, rdE_lt hj] at h3
    exact h3 h0 h1
/-- events that are read: whoever's they are -/
def EvsIn (w : World) (A : Option Addr) (l : List Ev) : Prop := 0 < l.length → ∃ ad : Addr, A = some ad ∧ ∀ j, (hj : j < l.length) → w.cell? (ad.add (j * 8)) = some (.string l[j].source) ∧ w.cell? ⟨(ad.add (j * 8)).block, (ad.add (j * 8)).off + 1, none⟩ = some (.int .i64 l[j].number) ∧ w.cell? ⟨(ad.add (j * 8)).block, (ad.add (j * 8)).off + 2, none⟩ = some (.int .i64 l[j].at_) ∧ w.cell? ⟨(ad.add (j * 8)).block, (ad.add (j * 8)).off + 3, none⟩ = some (.int .i64 l[j].kind) ∧ w.cell? ⟨(ad.add (j * 8)).block, (ad.add (j * 8)).off + 4, none⟩ = some (.string l[j].person) ∧ w.cell? ⟨(ad.add (j * 8)).block, (ad.add (j * 8)).off + 5, none⟩ = some (.string l[j].item) ∧ w.cell? ⟨(ad.add (j * 8)).block, (ad.add (j * 8)).off + 6, none⟩ = some (.int .i64 l[j].value) ∧ w.cell? ⟨(ad.add (j * 8)).block, (ad.add (j * 8)).off + 7, none⟩ = some (.string l[j].text)
theorem EvsIn.below {w W : World} {A : Option Addr} {l : List Ev} (h : EvsIn w A l) (hb : Below w.heap.size w W) : EvsIn W A l := fun hn => by
  obtain ⟨ad, e, hc⟩ := h hn
  refine ⟨ad, e, fun j hj => ?_⟩
  obtain ⟨c0, c1, c2, c3, c4, c5, c6, c7⟩ := hc j hj
  exact ⟨pw_cell_below hb c0, pw_cell_below hb c1, pw_cell_below hb c2, pw_cell_below hb c3, pw_cell_below hb c4, pw_cell_below hb c5, pw_cell_below hb c6, pw_cell_below hb c7⟩
theorem evsIn_C {w : World} {A : Option Addr} {l : List S28} (h : Kd.C k28 w A l.length l) : EvsIn w A (l.map toEv) := fun hn => by
  rw [List.length_map] at hn
  obtain ⟨ad, e, _⟩ := h.2.2 hn
  refine ⟨ad, e, fun j hj => ?_⟩
  rw [List.length_map] at hj
  obtain ⟨ad', e', c0, c1, c2, c3, c4, c5, c6, c7⟩ := at_T28 h (j : Int) (by omega) (by omega)
  rw [e] at e'
  obtain rfl := Option.some.inj e'
  have hx : rd_T28 l (j : Int) = l[j] := by unfold rd_T28; simp [hj]
  rw [hx, Int.toNat_natCast] at c0 c1 c2 c3 c4 c5 c6 c7
  simp only [List.getElem_map, toEv]
  exact ⟨c0, c1, c2, c3, c4, c5, c6, c7⟩
set_option maxRecDepth 100000 in
set_option maxHeartbeats 4000000 in
theorem alike_calls (A : Option Addr) (c : Nat) (l : List Ev) (w : World) (h : EvsIn w A l) (hc : l.length ≤ c) (hn : l.length ≤ 1000000) :
    Calls Tryz.prog 12 #[.slice A l.length c] w fun e w' => ∃ r, e = .returned (.bool r) ∧ (r = true → ∀ i, i < l.length → ∀ j, j < i → okP l i j) ∧ Below w.heap.size w w' := by
  have H := Aside0.mk h
  obtain ⟨n, hnn⟩ : ∃ n, n = l.length := ⟨_, rfl⟩
  rw [← hnn] at hc hn ⊢
  have HN := Aside0.mk hnn
  clear h hnn
  go_enter Tryz.func12, Tryz.ntmps12
  go_wp2_with fail
  go_loopw [3] (fun i wr => ∃ k : Nat, i = .int .i64 k ∧ k ≤ n ∧ Aside0 (∀ i, i < k → ∀ j, j < i → okP l i j) ∧ Aside0 (Below w.heap.size w wr)) (fun i _ => n - (intOf i).toNat)
  case atStart => exact ⟨0, rfl, Nat.zero_le _, ⟨fun i hi => by omega⟩, ⟨Below.refl _ _⟩⟩
  case round =>
    obtain ⟨k, rfl, hk, HOk, HB⟩ := hrel
    by_cases hlt : k < n
    · go_wp2_with fail
      go_loopw [4] (fun j wr => ∃ q : Nat, j = .int .i64 q ∧ q ≤ k ∧ Aside0 (∀ j, j < q → okP l k j) ∧ Aside0 (Below w.heap.size w wr)) (fun j _ => k - (intOf j).toNat)
      case atStart => exact ⟨0, rfl, Nat.zero_le _, ⟨fun j hj => by omega⟩, HB⟩
      case round =>
        obtain ⟨q, rfl, hq, HOq, HBq⟩ := hrel
        by_cases hlq : q < k
        · obtain ⟨ad, hA, hcell⟩ := H.out (by have := HN.out; omega)
          subst hA
          obtain ⟨a0, a1, a2, a3, a4, a5, a6, a7⟩ := hcell k (by have := HN.out; omega)
          obtain ⟨b0, b1, b2, b3, b4, b5, b6, b7⟩ := hcell q (by have := HN.out; omega)
          have hka : rdE l k = l[k]'(by have := HN.out; omega) := rdE_lt _
          have hqa : rdE l q = l[q]'(by have := HN.out; omega) := rdE_lt _
          rw [← hka] at a0 a1 a2 a3 a4 a5 a6 a7
          rw [← hqa] at b0 b1 b2 b3 b4 b5 b6 b7
          clear hka hqa hcell
          have HOkq : Aside0 (okP l k q = (((rdE l k).source = (rdE l q).source → (rdE l k).number = (rdE l q).number → rdE l k = rdE l q))) := ⟨rfl⟩
          obtain ⟨x, hx⟩ : ∃ x, x = rdE l k := ⟨_, rfl⟩
          obtain ⟨y, hy⟩ : ∃ y, y = rdE l q := ⟨_, rfl⟩
          rw [← hx] at a0 a1 a2 a3 a4 a5 a6 a7 HOkq
          rw [← hy] at b0 b1 b2 b3 b4 b5 b6 b7 HOkq
          clear hx hy
          obtain ⟨v, hv, hve⟩ := ev_neq x y
          have HVe := Aside0.mk hve
          have a0 := pw_cell_below HBq.out a0
          have a1 := pw_cell_below HBq.out a1
          have a2 := pw_cell_below HBq.out a2
          have a3 := pw_cell_below HBq.out a3
          have a4 := pw_cell_below HBq.out a4
          have a5 := pw_cell_below HBq.out a5
          have a6 := pw_cell_below HBq.out a6
          have a7 := pw_cell_below HBq.out a7
          have b0 := pw_cell_below HBq.out b0
          have b1 := pw_cell_below HBq.out b1
          have b2 := pw_cell_below HBq.out b2
          have b3 := pw_cell_below HBq.out b3
          have b4 := pw_cell_below HBq.out b4
          have b5 := pw_cell_below HBq.out b5
          have b6 := pw_cell_below HBq.out b6
          have b7 := pw_cell_below HBq.out b7
          clear hve
          obtain ⟨s0, s1, s2, s3, s4, s5, s6, s7⟩ := x
          obtain ⟨t0, t1, t2, t3, t4, t5, t6, t7⟩ := y
          unfold evV evC at hv
          simp only at a0 a1 a2 a3 a4 a5 a6 a7 b0 b1 b2 b3 b4 b5 b6 b7 hv
          have HStep : Aside0 (okP l k q → ∀ j, j < q + 1 → okP l k j) := ⟨fun hok j hj => by
            rcases Nat.lt_or_eq_of_le (Nat.le_of_lt_succ hj) with h1 | rfl
            · exact HOq.out j h1
            · exact hok⟩
          by_cases hs : s0 = t0
          · subst hs
            by_cases hm : s1 = t1
            · subst hm
              cases v
              · have HNew : Aside0 (∀ j, j < q + 1 → okP l k j) := ⟨HStep.out (by rw [HOkq.out]; exact fun _ _ => HVe.out rfl)⟩
                go_wp2_with fail
                go_quiet (fail)
                go_wp2
                go_roundw
                case rel => exact ⟨q + 1, by go_num, hlq, HNew, ⟨pw_below_drewN HBq.out _⟩⟩
                case measure => simp [intOf]; omega
              · go_wp2_with fail
                go_quiet (fail)
                go_wp2
                go_ret
                exact ⟨false, rfl, (fun e => by cases e), pw_below_drewN HBq.out _⟩
            · have HNew : Aside0 (∀ j, j < q + 1 → okP l k j) := ⟨HStep.out (by rw [HOkq.out]; exact fun _ h2 => absurd h2 hm)⟩
              have hm' : (s1 == t1) = false := by simpa using hm
              clear hm
              go_wp2_with fail
              go_quiet (fail)
              go_wp2
              go_roundw
              case rel => exact ⟨q + 1, by go_num, hlq, HNew, ⟨pw_below_drewN HBq.out _⟩⟩
              case measure => simp [intOf]; omega
          · have HNew : Aside0 (∀ j, j < q + 1 → okP l k j) := ⟨HStep.out (by rw [HOkq.out]; exact fun h2 _ => absurd h2 hs)⟩
            have hs' : (s0.toList == t0.toList) = false := beq_eq_false_iff_ne.2 (fun e => hs (ba_ext e))
            clear hs
            go_wp2_with fail
            go_quiet (fail)
            go_wp2
            go_roundw
            case rel => exact ⟨q + 1, by go_num, hlq, HNew, ⟨pw_below_drewN HBq.out _⟩⟩
            case measure => simp [intOf]; omega
        · obtain rfl : q = k := by omega
          have HNew : Aside0 (∀ i, i < q + 1 → ∀ j, j < i → okP l i j) := ⟨fun i hi j hj => by
            rcases Nat.lt_or_eq_of_le (Nat.le_of_lt_succ hi) with h1 | rfl
            · exact HOk.out i h1 j hj
            · exact HOq.out j hj⟩
          go_wp2
          go_roundw
          case rel => exact ⟨q + 1, by go_num, hlt, HNew, HBq⟩
          case measure => simp [intOf]; omega
    · obtain rfl : k = n := by omega
      go_wp2
      go_ret
      exact ⟨true, rfl, fun _ => HOk.out, HB.out⟩
end Go.Proofs.YtmmfoeckggpgdaaGreatDoor
set_option linter.unusedSimpArgs false
set_option linter.unusedVariables false
namespace Go.Proofs.YtmmfoeckggpgdaaGreatDoor
open Go.Maps

/-- events that were offered, one by one, at 0; f: none was late -/
inductive Offs (x0 : In) : List Ev → Bool → In → Prop
  | nil : Offs x0 [] true x0
  | snoc {l : List Ev} {f : Bool} {x x' : In} {e : Ev} {v : Int} (h : Offs x0 l f x) (h2 : Offered x e 0 v x') : Offs x0 (l ++ [e]) ((v != 2) && f) x'
def goneP (x : In) (p : ByteArray) : Bool := (getL x.gone p).getD false
/-- two of one identity are one event -/
def AlikeL (l : List Ev) : Prop := ∀ a ∈ l, ∀ b ∈ l, a.source = b.source → a.number = b.number → a = b
structure OffsInv (l : List Ev) (x : In) : Prop where
  taken : ∀ e, e ∈ x.taken ↔ e ∈ l ∧ mayB e = true ∧ (e.kind = 14 ∨ goneP x e.person = false)
  had : ∀ s n, hasS x.had s n = true → ∃ e ∈ l, e.source = s ∧ e.number = n
  gone : ∀ p, goneP x p = true ↔ ∃ e ∈ l, mayB e = true ∧ e.kind = 14 ∧ e.person = p
  all : ∀ p ∈ x.gone, p.2 = true
theorem goneB_eq (s : ByteArray) (x : Ev) : goneB s x = (decide (x.person = s) && (x.kind != 14)) := by
  unfold goneB
  congr 1
  by_cases h : x.person = s
  · rw [h]; simp
  · rw [decide_eq_false h]
    exact beq_eq_false_iff_ne.2 (fun e => h (ba_ext e))
theorem OffsInv.step {l : List Ev} {x x' : In} {e : Ev} {v : Int} (h : OffsInv l x) (ha : AlikeL (l ++ [e])) (ho : Offered x e 0 v x') (hv : v ≠ 2) : OffsInv (l ++ [e]) x' := by
  rcases ho with ⟨h0, hv0, rfl⟩ | ⟨h0, _, _, had', hm, rfl⟩ | ⟨_, _, h2, _⟩
  · -- wrong or a double: nothing is taken
    have hcase : e ∈ l ∨ (mayB e = false ∨ (goneP x e.person = true ∧ e.kind ≠ 14)) := by
      by_cases h1 : mayB e = true
      · cases hg : ((getL x.gone e.person).getD false && (e.kind != 14))
        · have hh : hasS x.had e.source e.number = true := by
            cases hh : hasS x.had e.source e.number
            · exfalso; apply h0; unfold lookB; rw [h1, hg, hh]; rfl
            · rfl
          obtain ⟨a, hal, ha1, ha2⟩ := h.had _ _ hh
          have := ha a (List.mem_append_left _ hal) e (by simp) ha1 ha2
          exact .inl (this ▸ hal)
        · rw [Bool.and_eq_true] at hg
          exact .inr (.inr ⟨hg.1, by simpa using hg.2⟩)
      · exact .inr (.inl (by simpa using h1))
    have hgone : ∀ p, goneP { x with clk := tickC x.clk 0 } p = goneP x p := fun p => rfl
    refine ⟨fun a => ?_, fun s n hs => ?_, fun p => ?_, h.all⟩
    · rw [show ({ x with clk := tickC x.clk 0 } : In).taken = x.taken from rfl, h.taken a, hgone]
      constructor
      · rintro ⟨h1, h2⟩; exact ⟨List.mem_append_left _ h1, h2⟩
      · rintro ⟨h1, h2, h3⟩
        rcases List.mem_append.1 h1 with h1 | h1
        · exact ⟨h1, h2, h3⟩
        · obtain rfl := List.mem_singleton.1 h1
          rcases hcase with hc | hc | ⟨hc1, hc2⟩
          · exact ⟨hc, h2, h3⟩
          · rw [hc] at h2; cases h2
          · rcases h3 with h3 | h3
            · exact absurd h3 hc2
            · rw [hc1] at h3; cases h3
    · obtain ⟨a, h1, h2⟩ := h.had s n hs
      exact ⟨a, List.mem_append_left _ h1, h2⟩
    · rw [hgone, h.gone p]
      constructor
      · rintro ⟨a, h1, h2⟩; exact ⟨a, List.mem_append_left _ h1, h2⟩
      · rintro ⟨a, h1, h2, h3, h4⟩
        rcases List.mem_append.1 h1 with h1 | h1
        · exact ⟨a, h1, h2, h3, h4⟩
        · obtain rfl := List.mem_singleton.1 h1
          rcases hcase with hc | hc | ⟨_, hc2⟩
          · exact ⟨a, hc, h2, h3, h4⟩
          · rw [hc] at h2; cases h2
          · exact absurd h3 hc2
  · obtain ⟨hmay, hng, _⟩ := lookB_zero h0
    have hhad : ∀ s n, hasS had' s n = true → ∃ a ∈ l ++ [e], a.source = s ∧ a.number = n := fun s n hs => by
      rw [hm s n, Bool.or_eq_true, decide_eq_true_iff] at hs
      rcases hs with ⟨rfl, rfl⟩ | hs
      · exact ⟨e, by simp, rfl, rfl⟩
      · obtain ⟨a, h1, h2⟩ := h.had s n hs
        exact ⟨a, List.mem_append_left _ h1, h2⟩
    by_cases hk : e.kind = 14
    · have hgone : ∀ p, ((getL (putL x.gone e.person true) p).getD false) = (decide (e.person = p) || goneP x p) := fun p => by
        rw [getL_put]
        by_cases hp : e.person = p
        · rw [if_pos hp, decide_eq_true hp]; rfl
        · rw [if_neg hp, decide_eq_false hp]; rfl
      unfold takeP
      rw [if_pos hk]
      refine ⟨fun a => ?_, hhad, fun p => ?_, fun p hp => ?_⟩
      · show a ∈ keepE (putE x.taken e) e.person ↔ _ ∧ _ ∧ (_ ∨ ((getL (putL x.gone e.person true) a.person).getD false) = false)
        rw [hgone]
        unfold keepE
        rw [List.mem_filter, mem_putE, h.taken a, goneB_eq]
        constructor
        · rintro ⟨h1, h2⟩
          have h2' : ¬ (a.person = e.person ∧ a.kind ≠ 14) := fun ⟨e1, e2⟩ => by simp [e1, e2] at h2
          rcases h1 with rfl | ⟨h3, h4, h5⟩
          · exact ⟨by simp, hmay, .inl hk⟩
          · refine ⟨List.mem_append_left _ h3, h4, ?_⟩
            rcases h5 with h5 | h5
            · exact .inl h5
            · by_cases h6 : a.kind = 14
              · exact .inl h6
              · refine .inr ?_
                rw [h5, Bool.or_false, decide_eq_false_iff_not]
                exact fun e' => h2' ⟨e'.symm, h6⟩
        · rintro ⟨h1, h2, h3⟩
          have h4 : (!(decide (a.person = e.person) && (a.kind != 14))) = true := by
            rcases h3 with h3 | h3
            · simp [h3]
            · rw [Bool.or_eq_false_iff, decide_eq_false_iff_not] at h3
              have : ¬ a.person = e.person := fun e' => h3.1 e'.symm
              simp [this]
          refine ⟨?_, h4⟩
          rcases List.mem_append.1 h1 with h1 | h1
          · refine .inr ⟨h1, h2, ?_⟩
            rcases h3 with h3 | h3
            · exact .inl h3
            · rw [Bool.or_eq_false_iff] at h3
              exact .inr h3.2
          · exact .inl (List.mem_singleton.1 h1)
      · show ((getL (putL x.gone e.person true) p).getD false) = true ↔ _
        rw [hgone, Bool.or_eq_true, decide_eq_true_iff, h.gone p]
        constructor
        · rintro (rfl | ⟨a, h1, h2⟩)
          · exact ⟨e, by simp, hmay, hk, rfl⟩
          · exact ⟨a, List.mem_append_left _ h1, h2⟩
        · rintro ⟨a, h1, h2, h3, h4⟩
          rcases List.mem_append.1 h1 with h1 | h1
          · exact .inr ⟨a, h1, h2, h3, h4⟩
          · obtain rfl := List.mem_singleton.1 h1
            exact .inl h4
      · rcases mem_putL hp with rfl | hp
        · rfl
        · exact h.all p hp
    · have hg0 : goneP x e.person = false := by
        cases hg : goneP x e.person
        · rfl
        · unfold goneP at hg
          have hk1 : (e.kind != 14) = true := by simpa using hk
          rw [hg, hk1] at hng; cases hng
      unfold takeP
      rw [if_neg hk]
      refine ⟨fun a => ?_, hhad, fun p => ?_, h.all⟩
      · show a ∈ putE x.taken e ↔ _ ∧ _ ∧ (_ ∨ goneP x a.person = false)
        rw [mem_putE, h.taken a]
        constructor
        · rintro (rfl | ⟨h1, h2⟩)
          · exact ⟨by simp, hmay, .inr hg0⟩
          · exact ⟨List.mem_append_left _ h1, h2⟩
        · rintro ⟨h1, h2⟩
          rcases List.mem_append.1 h1 with h1 | h1
          · exact .inr ⟨h1, h2⟩
          · exact .inl (List.mem_singleton.1 h1)
      · show goneP x p = true ↔ _
        rw [h.gone p]
        constructor
        · rintro ⟨a, h1, h2⟩; exact ⟨a, List.mem_append_left _ h1, h2⟩
        · rintro ⟨a, h1, h2, h3, h4⟩
          rcases List.mem_append.1 h1 with h1 | h1
          · exact ⟨a, h1, h2, h3, h4⟩
          · obtain rfl := List.mem_singleton.1 h1
            exact absurd h3 hk
  · exact absurd h2 hv
theorem Offs.inv {slack idle : Int} {l : List Ev} {f : Bool} {x : In} (h : Offs (emptyIn slack idle) l f x) : f = true → AlikeL l → OffsInv l x := by
  induction h with
  | nil => intro _ _; exact ⟨fun e => by simp [emptyIn], (fun s n h => by cases h), fun p => by simp [goneP, emptyIn, getL], by intro p hp; cases hp⟩
  | snoc h h2 ih =>
    rename_i l f x x' e v
    intro hf ha
    rw [Bool.and_eq_true] at hf
    exact (ih hf.2 (fun a h1 b h3 => ha a (List.mem_append_left _ h1) b (List.mem_append_left _ h3))).step ha h2 (by simpa using hf.1)
theorem before_asym {a b : Ev} (h1 : before a b) (h2 : before b a) : False := by
  have h := before_trans h1 h2
  unfold before at h
  rcases h with h | ⟨_, h | ⟨_, h⟩⟩
  · omega
  · rw [bl_irr] at h; cases h
  · omega
theorem ordered_eq : ∀ {l m : List Ev}, Ordered l → Ordered m → (∀ e, e ∈ l ↔ e ∈ m) → l = m
  | [], [], _, _, _ => rfl
  | [], b :: m, _, _, h => absurd ((h b).2 List.mem_cons_self) (by simp)
  | a :: l, [], _, _, h => absurd ((h a).1 List.mem_cons_self) (by simp)
  | a :: l, b :: m, hl, hm, h => by
    unfold Ordered at hl hm
    rw [List.pairwise_cons] at hl hm
    have hab : a = b := by
      rcases List.mem_cons.1 ((h a).1 List.mem_cons_self) with e | h1
      · exact e
      · rcases List.mem_cons.1 ((h b).2 List.mem_cons_self) with e | h2
        · exact e.symm
        · exact (before_asym (hl.1 b h2) (hm.1 a h1)).elim
    subst hab
    have hna : ∀ c, before a c → c ≠ a := fun c hc e => before_asym (e ▸ hc) (e ▸ hc)
    rw [ordered_eq hl.2 hm.2 (fun e => ?_)]
    have he := h e
    rw [List.mem_cons, List.mem_cons] at he
    constructor
    · intro h1
      exact (he.1 (.inr h1)).resolve_left (hna e (hl.1 e h1))
    · intro h1
      exact (he.2 (.inr h1)).resolve_left (hna e (hm.1 e h1))
/-- whoever is gone, as they stand -/
theorem rising_keys_eq : ∀ {l m : List (ByteArray × Bool)}, Rising l → Rising m → (∀ k, (getL l k).isSome = (getL m k).isSome) → l.map (·.1) = m.map (·.1)
  | [], [], _, _, _ => rfl
  | [], b :: m, _, _, h => by have := h b.1; simp [getL] at this
  | a :: l, [], _, _, h => by have := h a.1; simp [getL] at this
  | a :: l, b :: m, hl, hm, h => by
    have hmem : ∀ {L : List (ByteArray × Bool)}, Rising L → ∀ k, (getL L k).isSome = true ↔ k ∈ L.map (·.1) := fun {L} hL k => by
      constructor
      · intro h1
        obtain ⟨v, hv⟩ := Option.isSome_iff_exists.1 h1
        exact List.mem_map.2 ⟨_, mem_of_getL hv, rfl⟩
      · intro h1
        obtain ⟨p, hp, rfl⟩ := List.mem_map.1 h1
        rw [getL_of_mem hL (show (p.1, p.2) ∈ L from hp)]; rfl
    have hk : ∀ k, k ∈ (a :: l).map (·.1) ↔ k ∈ (b :: m).map (·.1) := fun k => by rw [← hmem hl k, ← hmem hm k, h k]
    unfold Rising at hl hm
    have hl' := List.pairwise_cons.1 hl
    have hm' := List.pairwise_cons.1 hm
    have hab : a.1 = b.1 := by
      rcases List.mem_cons.1 ((hk a.1).1 List.mem_cons_self) with e | h1
      · exact e
      · rcases List.mem_cons.1 ((hk b.1).2 List.mem_cons_self) with e | h2
        · exact e.symm
        · obtain ⟨p, hp, hpe⟩ := List.mem_map.1 h1
          obtain ⟨q, hq, hqe⟩ := List.mem_map.1 h2
          have h3 := hm'.1 p hp
          have h4 := hl'.1 q hq
          rw [before_kLit, hpe] at h3
          rw [before_kLit, hqe] at h4
          have := blt_asymm h3
          rw [h4] at this; cases this
    have hne : ∀ {L : List (ByteArray × Bool)} {c : ByteArray × Bool}, (∀ p ∈ L, (kLit c.1).before (kLit p.1) = true) → c.1 ∉ L.map (·.1) := fun {L c} hL hc => by
      obtain ⟨p, hp, hpe⟩ := List.mem_map.1 hc
      have h3 := hL p hp
      rw [hpe, before_kLit, blt_irrefl] at h3; cases h3
    rw [List.map_cons, List.map_cons, hab]
    congr 1
    refine rising_keys_eq hl'.2 hm'.2 (fun k => ?_)
    have hkk := hk k
    rw [List.map_cons, List.map_cons, List.mem_cons, List.mem_cons, hab] at hkk
    have h1 := hne hl'.1
    have h2 := hne hm'.1
    rw [hab] at h1
    rw [Bool.eq_iff_iff, hmem hl'.2 k, hmem hm'.2 k]
    constructor
    · intro h3
      exact (hkk.1 (.inr h3)).resolve_left (fun e => h1 (e ▸ h3))
    · intro h3
      exact (hkk.2 (.inr h3)).resolve_left (fun e => h2 (e ▸ h3))
theorem gone_isSome {x : In} (ha : ∀ p ∈ x.gone, p.2 = true) (k : ByteArray) : (getL x.gone k).isSome = goneP x k := by
  unfold goneP
  cases h : getL x.gone k with
  | none => rfl
  | some v =>
    have := ha _ (mem_of_getL h)
    simp only at this
    rw [this]; rfl
/-- WHATEVER ORDER -/
theorem order_law {s1 i1 s2 i2 : Int} {l m : List Ev} {x y : In} (hx : Offs (emptyIn s1 i1) l true x) (hy : Offs (emptyIn s2 i2) m true y) (hlm : ∀ e, e ∈ l ↔ e ∈ m) (ha : AlikeL l) (ox : Ordered x.taken) (oy : Ordered y.taken) (rx : Rising x.gone) (ry : Rising y.gone) :
    x.taken = y.taken ∧ x.gone.map (·.1) = y.gone.map (·.1) := by
  have ix := hx.inv rfl ha
  have iy := hy.inv rfl (fun a h1 b h2 => ha a ((hlm a).2 h1) b ((hlm b).2 h2))
  have hg : ∀ p, goneP x p = goneP y p := fun p => by
    rw [Bool.eq_iff_iff, ix.gone p, iy.gone p]
    constructor
    · rintro ⟨e, h1, h2⟩; exact ⟨e, (hlm e).1 h1, h2⟩
    · rintro ⟨e, h1, h2⟩; exact ⟨e, (hlm e).2 h1, h2⟩
  refine ⟨ordered_eq ox oy (fun e => ?_), rising_keys_eq rx ry (fun k => ?_)⟩
  · rw [ix.taken e, iy.taken e, hlm e, hg]
  · rw [gone_isSome ix.all, gone_isSome iy.all, hg]
end Go.Proofs.YtmmfoeckggpgdaaGreatDoor
