/-
  What entries are added to a chain; frames of rows and chains. No step of the program is walked here.
-/
import Derived.Test.YtmbkmfdmpimegaaDoorA11
set_option linter.unusedVariables false
namespace Go.Proofs.YtmbkmfdmpimegaaDoor
open Go.RowKit Go.Lib Go.Sort Go.Proofs.YtmbkmfdmpimegaaDoorW.PrintWords Go.Proofs.YtmbkmfdmpimegaaDoor.PR

theorem wrap_range (n : Int) : 0 ≤ IntKind.u64.wrap n ∧ IntKind.u64.wrap n < 18446744073709551616 := by
  simp [IntKind.wrap, IntKind.bits, IntKind.signed]; omega
theorem sumE_range (a o n : Int) (p : ByteArray) (is : List ByteArray) : 0 ≤ sumE a o n p is ∧ sumE a o n p is < 18446744073709551616 := by
  unfold sumE hashI hmix3 Go.bits
  exact wrap_range _
/-- the entries behind an addition of each of a list -/
def adds (seed : Int) (acc : List S30) : List S30 → List S30
  | [] => acc
  | x :: l => adds seed (addE seed acc x.f0 x.f1 x.f2 x.f3).2 l
theorem adds_append (seed : Int) : ∀ (l m acc : List S30), adds seed acc (l ++ m) = adds seed (adds seed acc l) m
  | [], _, _ => rfl
  | x :: l, m, acc => adds_append seed l m _
theorem adds_snoc (seed : Int) (es : List S30) (k : Nat) (hk : k < es.length) : adds seed [] (es.take (k + 1)) = (addE seed (adds seed [] (es.take k)) es[k].f0 es[k].f1 es[k].f2 es[k].f3).2 := by
  rw [List.take_succ_eq_append_getElem hk, adds_append]; rfl
theorem addE_len (seed : Int) (acc : List S30) (o n : Int) (p : ByteArray) (is : List ByteArray) : (addE seed acc o n p is).2.length ≤ acc.length + 1 := by
  unfold addE; split <;> simp
theorem addE_fine (seed : Int) (acc : List S30) (o n : Int) (p : ByteArray) (is : List ByteArray) (h : ∀ x ∈ acc, Fine x) : ∀ x ∈ (addE seed acc o n p is).2, Fine x := by
  unfold addE
  by_cases hm : mayE o n p is = true
  · rw [if_pos hm]
    intro x hx
    rcases List.mem_append.1 hx with hx | hx
    · exact h x hx
    · obtain rfl : x = _ := List.mem_singleton.1 hx
      exact ⟨hm, sumE_range _ _ _ _ _⟩
  · rw [if_neg hm]; exact h
theorem adds_len (seed : Int) : ∀ (l acc : List S30), (adds seed acc l).length ≤ acc.length + l.length
  | [], _ => by simp [adds]
  | x :: l, acc => by
    have h1 := adds_len seed l (addE seed acc x.f0 x.f1 x.f2 x.f3).2
    have h2 := addE_len seed acc x.f0 x.f1 x.f2 x.f3
    simp only [adds, List.length_cons]; omega
theorem adds_fine (seed : Int) : ∀ (l acc : List S30), (∀ x ∈ acc, Fine x) → ∀ x ∈ adds seed acc l, Fine x
  | [], _, h => h
  | x :: l, acc, h => adds_fine seed l _ (addE_fine seed acc _ _ _ _ h)
theorem lastS_snoc (seed : Int) (es : List S30) (x : S30) : lastS seed (es ++ [x]) = x.f4 := by
  unfold lastS
  rw [if_neg (by simp)]
  simp [List.getD]
theorem own_fr {α : Type} {R : α → List Value → Prop} {e : TypeId} {sz : Nat} {w W : World} {base : Nat} {v : Value} {ps : List α} {S : Nat → Prop} (h : OwnRow R e sz w base v ps) (hf : Fr S w W) (hs : ∀ k, v.ownBlock = some k → ¬ S k) : OwnRow R e sz W base v ps := by
  obtain ⟨inner, ho, hr⟩ := h
  exact ⟨inner, own_move ho (fun k hk => hf.block k (own_lt ho k hk) (hs k hk)), hr⟩
theorem own_row_lt {α : Type} {R : α → List Value → Prop} {e : TypeId} {sz : Nat} {w : World} {base : Nat} {v : Value} {ps : List α} (h : OwnRow R e sz w base v ps) : ∀ k, v.ownBlock = some k → k < w.heap.size := by
  obtain ⟨inner, ho, hr⟩ := h
  exact fun k hk => own_lt ho k hk
theorem own_row_base {α : Type} {R : α → List Value → Prop} {e : TypeId} {sz : Nat} {w : World} {base : Nat} {v : Value} {ps : List α} (h : OwnRow R e sz w base v ps) : ∀ k, v.ownBlock = some k → base ≤ k := by
  obtain ⟨inner, ho, hr⟩ := h
  exact fun k hk => own_base ho k hk
theorem own_row_typed {α : Type} {R : α → List Value → Prop} {e : TypeId} {sz : Nat} {w : World} {base : Nat} {v : Value} {ps : List α} (h : OwnRow R e sz w base v ps) : ∀ k, v.ownBlock = some k → ∃ cells, w.heap[k]? = some (.cells cells e (0, 0)) := by
  obtain ⟨inner, ho, hr⟩ := h
  exact fun k hk => own_typed ho k hk
/-- a chain's own blocks are of other types than ref.Entry -/
theorem Chain.over {base : Nat} {ok : Nat → Prop} {w W : World} {g : Nat} {v : Value} {seed : Int} {es : List S30} {S : Nat → Prop} (h : Chain base ok w g v seed es) (hf : Fr S w W) (hS : ∀ k, k < w.heap.size → S k → ∃ cells, w.heap[k]? = some (.cells cells 30 (0, 0))) : Chain base ok W g v seed es := by
  have hg : ¬ S g := fun hs => by
    obtain ⟨cells, hc⟩ := hS g (blk_lt h.blk) hs
    rw [h.blk] at hc
    cases hc
  refine ⟨hf.blk h.blk hg, ?_, h.ge, h.nok⟩
  have hb := Kd.R_bound h.row
  refine Kd.R_mono (R_fr hb hf (fun k _ hk ho hs => ?_)) (fun _ hk => hk.1)
  obtain ⟨_, _, _, q, hq, cells, hc⟩ := ho
  obtain ⟨cells', hc'⟩ := hS k hk hs
  rw [hc] at hc'
  have hq2 : q = 30 := by cases hc'; rfl
  rw [hq2] at hq
  revert hq
  decide
theorem Chain.own_typed {base : Nat} {ok : Nat → Prop} {w : World} {g : Nat} {v : Value} {seed : Int} {es : List S30} (h : Chain base ok w g v seed es) : ∀ k, chS g v k → ∃ cells t, (t = 52 ∨ t = 33) ∧ w.heap[k]? = some (.cells cells t (0, 0)) := by
  rintro k (rfl | hk)
  · exact ⟨_, 52, .inl rfl, h.blk⟩
  · obtain ⟨cells, hc⟩ := Kd.R_typed h.row k hk
    exact ⟨cells, 33, .inr rfl, hc⟩
theorem Chain.ch_lt {base : Nat} {ok : Nat → Prop} {w : World} {g : Nat} {v : Value} {seed : Int} {es : List S30} (h : Chain base ok w g v seed es) : ∀ k, chS g v k → k < w.heap.size ∧ base ≤ k := by
  rintro k (rfl | hk)
  · exact ⟨blk_lt h.blk, h.ge⟩
  · exact ⟨Kd.R_lt h.row k hk, Kd.R_base h.row k hk⟩
theorem Chain.elder {base : Nat} {ok : Nat → Prop} {w : World} {g : Nat} {v : Value} {seed : Int} {es : List S30} (h : Chain base ok w g v seed es) (a : Nat) (ha : w.heap.size ≤ a) : Chain base (fun k => ok k ∧ k ≠ a) w g v seed es :=
  ⟨h.blk, Kd.R_elderB h.row a ha, h.ge, fun k => h.nok k.1⟩
/-- one entry in cells of its own -/
theorem ent_one {W2 : World} {b : Nat} {x : S30} {t : TypeId} {a0 a1 a2 a3 a4 : Value} (hb : W2.heap[b]? = some (.cells #[a0, a1, a2, a3, a4] t (0, 0))) (hK : k30.K W2 x [a0, a1, a2, a3, a4]) : Kd.C k30 W2 (some ⟨b, 0, none⟩) 1 [x] := by
  refine ⟨rfl, by decide, fun _ => ⟨_, rfl, fun j p hj => ?_⟩⟩
  obtain rfl : j = 0 := by
    rcases Nat.eq_zero_or_pos j with h | h
    · exact h
    · rw [List.getElem?_eq_none (by simp; omega)] at hj; cases hj
  obtain rfl : x = p := by simpa using hj
  refine ⟨_, rfl, hK, fun i u hu => ?_⟩
  obtain ⟨h0, h1, h2, h3, h4, _⟩ := five hb
  match i with
  | 0 => obtain rfl : a0 = u := by simpa using hu
         exact h0
  | 1 => obtain rfl : a1 = u := by simpa using hu
         exact h1
  | 2 => obtain rfl : a2 = u := by simpa using hu
         exact h2
  | 3 => obtain rfl : a3 = u := by simpa using hu
         exact h3
  | 4 => obtain rfl : a4 = u := by simpa using hu
         exact h4
  | n + 5 => simp at hu
end Go.Proofs.YtmbkmfdmpimegaaDoor
