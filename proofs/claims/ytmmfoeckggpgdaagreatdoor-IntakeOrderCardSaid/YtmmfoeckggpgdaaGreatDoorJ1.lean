/-
  Maps keyed by texts, as rising lists of keys and values: what looking up, storing, counting and ranging come to. No program is in sight. The clock, plainly: what ticking and hearing come to. No program is in sight. Rows of ranges, plainly: which numbers they hold, and how one more is put in. No program is in sight.
-/
import Derived.Maps.OwnOps
import Derived.Maps.OwnSet
import Derived.Maps.Views
import Derived.Maps.Ext
import Derived.Maps.RangeWalk
import Derived.ProofKit
set_option linter.unusedSimpArgs false
set_option linter.unusedVariables false
namespace Go.Proofs.YtmmfoeckggpgdaaGreatDoor
open Go.Maps Go.WideMaps Go.WideShapes Go.ChangeMaps Go.MapKept

/-- an element, read as itself -/
def vR (v : Value) : Option (DataW Value × List MemPlace) := some (.held v, [])
def kLit (k : ByteArray) : Lit := .string k.data.toList
theorem kLit_inj {a b : ByteArray} (h : kLit a = kLit b) : a = b := by
  have h1 : a.data.toList = b.data.toList := by simpa [kLit] using h
  cases a; cases b
  simp only [Array.toList_inj] at h1
  subst h1
  rfl
def mapD (l : List (ByteArray × Value)) : DataW Value := .map (l.map fun p => (kLit p.1, .held p.2))
/-- keys rise -/
def Rising {α : Type} (l : List (ByteArray × α)) : Prop := l.Pairwise fun p q => (kLit p.1).before (kLit q.1) = true
/-- a map that reads as such a list -/
structure SMap (P : Program) (K : TypeId) (w : World) (b n : Nat) (l : List (ByteArray × Value)) : Prop where
  own : w.ownsMap P K vR b n (mapD l)
  rise : Rising l
  keys : ∀ p ∈ l, p.1.size ≤ maxLen
def getL {α : Type} (l : List (ByteArray × α)) (k : ByteArray) : Option α := (l.find? fun p => decide (p.1 = k)).map (·.2)
def putL {α : Type} (l : List (ByteArray × α)) (k : ByteArray) (v : α) : List (ByteArray × α) :=
  match l with
  | [] => [(k, v)]
  | (a, x) :: r => if a = k then (k, v) :: r else if (kLit k).before (kLit a) = true then (k, v) :: (a, x) :: r else (a, x) :: putL r k v

theorem isKey_kLit (k : ByteArray) : WideAt.IsKeyLit (kLit k) := by simp [WideAt.IsKeyLit, kLit]
theorem sameKey_kLit (a b : ByteArray) : (kLit a).sameKey (kLit b) = decide (a = b) := by
  by_cases h : a = b
  · subst h
    simp [kLit, Lit.sameKey]
  · rw [decide_eq_false h]
    exact sameKey_ne (fun e => h (kLit_inj e))
theorem has_mapD (l : List (ByteArray × Value)) (k : ByteArray) : Maps.has (mapD l) (kLit k) = (getL l k).isSome := by
  unfold mapD
  rw [Maps.has_eq, List.any_map]
  unfold getL
  induction l with
  | nil => rfl
  | cons p r ih =>
    simp only [List.any_cons, Function.comp_apply, sameKey_kLit, List.find?_cons]
    by_cases h : p.1 = k
    · simp [h]
    · simpa [h] using ih
theorem at_mapD (l : List (ByteArray × Value)) (k : ByteArray) (z : DataW Value) : (mapD l).atKey (kLit k) z = ((getL l k).map DataW.held).getD z := by
  unfold mapD getL
  induction l with
  | nil => rfl
  | cons p r ih =>
    simp only [List.map_cons, List.find?_cons]
    by_cases h : p.1 = k
    · simp [DataW.atKey, sameKey_kLit, h]
    · have e : (kLit p.1).sameKey (kLit k) = false := by rw [sameKey_kLit, decide_eq_false h]
      simp only [DataW.atKey, List.find?_cons, e, h, decide_false]
      simpa [DataW.atKey] using ih

/-! ### the order of keys -/
def blt (a b : ByteArray) : Bool := bytesBefore a.data.toList b.data.toList
theorem before_kLit (a b : ByteArray) : (kLit a).before (kLit b) = blt a b := rfl
theorem ba_list_ne {a b : ByteArray} (h : a ≠ b) : a.data.toList ≠ b.data.toList := fun e => h (kLit_inj (by simp [kLit, e]))
theorem blt_irrefl (a : ByteArray) : blt a a = false := WideAt.bytes_irrefl _
theorem blt_total {a b : ByteArray} (h : a ≠ b) : blt a b = true ∨ blt b a = true := WideAt.bytes_total _ _ (ba_list_ne h)
theorem blt_trans {a b c : ByteArray} (h1 : blt a b = true) (h2 : blt b c = true) : blt a c = true := bytes_trans _ _ _ h1 h2
theorem blt_asymm {a b : ByteArray} (h : blt a b = true) : blt b a = false := by
  cases e : blt b a with
  | false => rfl
  | true => rw [← blt_irrefl a]; exact (blt_trans h e).symm
theorem getL_put {α : Type} (l : List (ByteArray × α)) (k k' : ByteArray) (v : α) : getL (putL l k v) k' = if k = k' then some v else getL l k' := by
  unfold getL
  induction l with
  | nil =>
    by_cases h : k = k' <;> simp [putL, h]
  | cons p r ih =>
    obtain ⟨a, x⟩ := p
    unfold putL
    by_cases h1 : a = k
    · subst h1
      rw [if_pos rfl]
      by_cases h : a = k' <;> simp [List.find?_cons, h]
    · rw [if_neg h1]
      by_cases h2 : (kLit k).before (kLit a) = true
      · rw [if_pos h2]
        by_cases h : k = k' <;> simp [List.find?_cons, h]
      · rw [if_neg h2]
        simp only [List.find?_cons]
        by_cases h3 : a = k'
        · subst h3
          have h4 : ¬ k = a := fun e => h1 e.symm
          simp [h4]
        · simp only [h3, decide_false]
          exact ih
theorem mem_putL {α : Type} {l : List (ByteArray × α)} {k : ByteArray} {v : α} {p : ByteArray × α} (h : p ∈ putL l k v) : p = (k, v) ∨ p ∈ l := by
  induction l with
  | nil => left; simpa [putL] using h
  | cons q r ih =>
    obtain ⟨a, x⟩ := q
    unfold putL at h
    split at h
    · rcases List.mem_cons.1 h with h | h
      · exact .inl h
      · exact .inr (List.mem_cons_of_mem _ h)
    · split at h
      · rcases List.mem_cons.1 h with h | h
        · exact .inl h
        · exact .inr h
      · rcases List.mem_cons.1 h with h | h
        · exact .inr (by rw [h]; exact List.mem_cons_self)
        · rcases ih h with h | h
          · exact .inl h
          · exact .inr (List.mem_cons_of_mem _ h)
theorem rising_put {α : Type} {l : List (ByteArray × α)} (h : Rising l) (k : ByteArray) (v : α) : Rising (putL l k v) := by
  induction l with
  | nil => simp [putL, Rising]
  | cons q r ih =>
    obtain ⟨a, x⟩ := q
    obtain ⟨h1, h2⟩ := List.pairwise_cons.1 h
    unfold putL
    by_cases e : a = k
    · subst e
      rw [if_pos rfl]
      exact List.pairwise_cons.2 ⟨h1, h2⟩
    · rw [if_neg e]
      by_cases hb : (kLit k).before (kLit a) = true
      · rw [if_pos hb]
        refine List.pairwise_cons.2 ⟨fun p hp => ?_, h⟩
        rcases List.mem_cons.1 hp with rfl | hp
        · exact hb
        · exact blt_trans hb (h1 p hp)
      · rw [if_neg hb]
        refine List.pairwise_cons.2 ⟨fun p hp => ?_, ih h2⟩
        rcases mem_putL hp with rfl | hp
        · rcases blt_total e with h3 | h3
          · exact h3
          · exact absurd h3 hb
        · exact h1 p hp
theorem canon_mapD {l : List (ByteArray × Value)} (h : Rising l) : Maps.Canon (mapD l) :=
  ⟨_, rfl, List.pairwise_map.2 h, fun p hp => by obtain ⟨q, _, rfl⟩ := List.mem_map.1 hp; exact isKey_kLit _⟩
theorem mem_of_getL {α : Type} {l : List (ByteArray × α)} {k : ByteArray} {v : α} (h : getL l k = some v) : (k, v) ∈ l := by
  unfold getL at h
  obtain ⟨p, hp, rfl⟩ := Option.map_eq_some_iff.1 h
  have h1 := List.mem_of_find?_eq_some hp
  have h2 := List.find?_some hp
  obtain rfl : p.1 = k := of_decide_eq_true h2
  exact h1
theorem getL_of_mem {α : Type} {l : List (ByteArray × α)} (h : Rising l) {k : ByteArray} {v : α} (hm : (k, v) ∈ l) : getL l k = some v := by
  induction l with
  | nil => simp at hm
  | cons q r ih =>
    obtain ⟨h1, h2⟩ := List.pairwise_cons.1 h
    unfold getL
    rw [List.find?_cons]
    rcases List.mem_cons.1 hm with rfl | hm
    · simp
    · have hne : ¬ q.1 = k := fun e => by
        have h3 : blt q.1 k = true := h1 _ hm
        rw [e, blt_irrefl] at h3
        cases h3
      simp only [hne, decide_false]
      exact ih h2 hm
/-- a reading is the reading of a list -/
theorem has_str {l : List (ByteArray × Value)} {x : Lit} (h : Maps.has (mapD l) x = true) : ∃ k, x = kLit k := by
  unfold mapD at h
  rw [Maps.has_eq, List.any_map] at h
  obtain ⟨p, _, hp⟩ := List.any_eq_true.1 h
  exact ⟨p.1, (WideAt.sameKey_eq hp).symm⟩
theorem put_mapD {l : List (ByteArray × Value)} (h : Rising l) (k : ByteArray) (v : Value) (hc : Maps.Canon ((mapD l).put (kLit k) (.held v))) : (mapD l).put (kLit k) (.held v) = mapD (putL l k v) := by
  have hm : Maps.IsMap (mapD l) := ⟨_, rfl⟩
  refine Maps.ext hc (canon_mapD (rising_put h k v)) (fun x => ?_) (fun x z hx => ?_)
  · by_cases hk : ∃ q, x = kLit q
    · obtain ⟨q, rfl⟩ := hk
      rw [has_mapD, getL_put]
      by_cases e : k = q
      · subst e
        rw [if_pos rfl, Maps.has_put_same hm (isKey_kLit k)]; rfl
      · rw [if_neg e, Maps.has_put_other (fun e2 => e (kLit_inj e2).symm), has_mapD]
    · have hne : x ≠ kLit k := fun e => hk ⟨k, e⟩
      rw [Maps.has_put_other hne]
      have e1 : Maps.has (mapD l) x = false := by
        cases e : Maps.has (mapD l) x with
        | false => rfl
        | true => exact absurd (has_str e) hk
      have e2 : Maps.has (mapD (putL l k v)) x = false := by
        cases e : Maps.has (mapD (putL l k v)) x with
        | false => rfl
        | true => exact absurd (has_str e) hk
      rw [e1, e2]
  · have hk : ∃ q, x = kLit q := by
      by_cases e : x = kLit k
      · exact ⟨k, e⟩
      · rw [Maps.has_put_other e] at hx
        exact has_str hx
    obtain ⟨q, rfl⟩ := hk
    rw [at_mapD, getL_put]
    by_cases e : k = q
    · subst e
      rw [if_pos rfl, Maps.atKey_put_same hm (isKey_kLit k)]; rfl
    · rw [if_neg e, Maps.atKey_put_other (fun e2 => e (kLit_inj e2).symm), at_mapD]

/-! ### the laws of a map in memory -/
section
variable {P : Program} {K T E : TypeId} {w : World} {b n : Nat} {l : List (ByteArray × Value)}
theorem keyOf_str (hK : P.underlying K = some .string) {k : ByteArray} (hk : k.size ≤ maxLen) : keyOf P K (.string k) = some (kLit k) := keyOf_string_mk hK hk
theorem SMap.lt (h : SMap P K w b n l) : b < w.heap.size := h.own.lt
theorem SMap.kept {w' : World} {row : Option Nat} (h : SMap P K w b n l) (hg : w.grownBy w' row) (hne : some b ≠ row) : SMap P K w' b n l := ⟨h.own.kept hg hne, h.rise, h.keys⟩
theorem SMap.move {w' : World} (h : SMap P K w b n l) (hm : w'.heap[b]? = w.heap[b]?) : SMap P K w' b n l := by
  obtain ⟨es, clock, hb, F, hs, hD⟩ := h.own
  exact ⟨⟨es, clock, hm.trans hb, F, hs, hD⟩, h.rise, h.keys⟩
theorem SMap.made (P : Program) (K : TypeId) (w : World) : SMap P K (w.alloc (.map #[] 0)) w.heap.size 0 [] := ⟨World.ownsMap_made w P K vR, List.Pairwise.nil, by simp⟩
theorem SMap.mono {n' : Nat} (h : SMap P K w b n l) (hn : n ≤ n') : SMap P K w b n' l := ⟨h.own.mono hn, h.rise, h.keys⟩
/-- 'm[k]' -/
theorem SMap.look (h : SMap P K w b n l) (hK : P.underlying K = some .string) (hT : P.underlying T = some (.map K E)) {z : Value} (hz : (zeroValue E).run P w = .ok z w) {k : ByteArray} (hk : k.size ≤ maxLen) :
    (Instr.lookup T (.map (some b)) (.string k) false).run P w = .ok ((getL l k).getD z) w := by
  obtain ⟨v, ps, hrun, hv⟩ := h.own.lookup (string_keyed hK) hT hz (zd := .held z) (zp := []) rfl (keyOf_str hK hk)
  rw [at_mapD] at hv
  have e : v = (getL l k).getD z := by
    have h1 : DataW.held v = ((getL l k).map DataW.held).getD (.held z) := by simpa [vR] using congrArg (fun o => o.map Prod.fst) hv
    cases hg : getL l k with
    | none => rw [hg] at h1; simpa using h1
    | some u => rw [hg] at h1; simpa using h1
  rw [hrun, e]
/-- 'v, ok := m[k]' -/
theorem SMap.look_ok (h : SMap P K w b n l) (hK : P.underlying K = some .string) (hT : P.underlying T = some (.map K E)) {z : Value} (hz : (zeroValue E).run P w = .ok z w) {k : ByteArray} (hk : k.size ≤ maxLen) :
    (Instr.lookup T (.map (some b)) (.string k) true).run P w = .ok (.tuple #[(getL l k).getD z, .bool (getL l k).isSome]) w := by
  obtain ⟨v, ps, hrun, hv⟩ := h.own.look_ok (string_keyed hK) hT hz (zd := .held z) (zp := []) rfl (keyOf_str hK hk)
  rw [at_mapD] at hv
  have e : v = (getL l k).getD z := by
    have h1 : DataW.held v = ((getL l k).map DataW.held).getD (.held z) := by simpa [vR] using congrArg (fun o => o.map Prod.fst) hv
    cases hg : getL l k with
    | none => rw [hg] at h1; simpa using h1
    | some u => rw [hg] at h1; simpa using h1
  rw [hrun, e, has_mapD]
/-- 'm[k] = v' -/
theorem SMap.store (h : SMap P K w b n l) (hK : P.underlying K = some .string) (hT : P.underlying T = some (.map K E)) (hn : n < maxLen) {k : ByteArray} (hk : k.size ≤ maxLen) (v : Value) :
    ∃ w', (Instr.mapUpdate T (.map (some b)) (.string k) v).run P w = .ok () w' ∧ SMap P K w' b (n + 1) (putL l k v) ∧ w.grownBy w' (some b) ∧ w'.heap.size = w.heap.size := by
  obtain ⟨w', hrun, ho, hg⟩ := h.own.store (string_keyed hK) hT hn (keyOf_str hK hk) (d := .held v) (ps := []) (val := v) rfl
  refine ⟨w', hrun, ⟨?_, rising_put h.rise k v, fun p hp => ?_⟩, hg.grown, ?_⟩
  · rw [← put_mapD h.rise k v (ho.canon (string_keyed hK))]; exact ho
  · rcases mem_putL hp with rfl | hp
    · exact hk
    · exact h.keys p hp
  · obtain ⟨_, _, _, _, _, e⟩ := hg
    rw [e]
    simp [setBlock]
theorem size_mapD (l : List (ByteArray × Value)) : Maps.size (mapD l) = l.length := by simp [mapD, Maps.size_eq]
theorem SMap.len (h : SMap P K w b n l) (hT : P.underlying T = some (.map K E)) (ty : TypeId) : (Builtin.len_ #[T] ty #[.map (some b)]).run P w = .ok (.int .i64 l.length) w := by
  rw [h.own.len hT ty, size_mapD]
theorem SMap.le (h : SMap P K w b n l) : l.length ≤ n := by have := h.own.size_le; rwa [size_mapD] at this
end

/-! ### elements of a shape -/
def sh {α : Type} (mk : α → Value) (p : ByteArray × α) : ByteArray × Value := (p.1, mk p.2)
theorem getL_sh {α : Type} (mk : α → Value) (L : List (ByteArray × α)) (k : ByteArray) : getL (L.map (sh mk)) k = (getL L k).map mk := by
  induction L with
  | nil => rfl
  | cons p r ih =>
    unfold getL at ih ⊢
    by_cases h : p.1 = k <;> simp [sh, List.find?_cons, h]
    simpa using ih
theorem putL_sh {α : Type} (mk : α → Value) (L : List (ByteArray × α)) (k : ByteArray) (v : α) : putL (L.map (sh mk)) k (mk v) = (putL L k v).map (sh mk) := by
  induction L with
  | nil => rfl
  | cons p r ih =>
    obtain ⟨a, x⟩ := p
    simp only [List.map_cons, putL, sh] at ih ⊢
    by_cases h1 : a = k
    · rw [if_pos h1, if_pos h1]; rfl
    · rw [if_neg h1, if_neg h1]
      by_cases h2 : (kLit k).before (kLit a) = true
      · rw [if_pos h2, if_pos h2]; rfl
      · rw [if_neg h2, if_neg h2, List.map_cons, ih]; rfl
theorem rising_sh {α : Type} (mk : α → Value) (L : List (ByteArray × α)) : Rising (L.map (sh mk)) ↔ Rising L := List.pairwise_map
/-- a map whose elements have a shape -/
def TMap {α : Type} (mk : α → Value) (P : Program) (K : TypeId) (w : World) (b n : Nat) (L : List (ByteArray × α)) : Prop := SMap P K w b n (L.map (sh mk))
section
variable {α : Type} {mk : α → Value} {P : Program} {K T E : TypeId} {w : World} {b n : Nat} {L : List (ByteArray × α)}
theorem TMap.rise (h : TMap mk P K w b n L) : Rising L := (rising_sh mk L).1 (SMap.rise h)
theorem TMap.keys (h : TMap mk P K w b n L) : ∀ p ∈ L, p.1.size ≤ maxLen := fun p hp => SMap.keys h (sh mk p) (List.mem_map_of_mem hp)
theorem TMap.lt (h : TMap mk P K w b n L) : b < w.heap.size := SMap.lt h
theorem TMap.move {w' : World} (h : TMap mk P K w b n L) (hm : w'.heap[b]? = w.heap[b]?) : TMap mk P K w' b n L := SMap.move h hm
theorem TMap.kept {w' : World} {row : Option Nat} (h : TMap mk P K w b n L) (hg : w.grownBy w' row) (hne : some b ≠ row) : TMap mk P K w' b n L := SMap.kept h hg hne
theorem TMap.made (mk : α → Value) (P : Program) (K : TypeId) (w : World) : TMap mk P K (w.alloc (.map #[] 0)) w.heap.size 0 [] := SMap.made P K w
theorem TMap.mono {n' : Nat} (h : TMap mk P K w b n L) (hn : n ≤ n') : TMap mk P K w b n' L := SMap.mono h hn
theorem TMap.look (h : TMap mk P K w b n L) (hK : P.underlying K = some .string) (hT : P.underlying T = some (.map K E)) {z : α} (hz : (zeroValue E).run P w = .ok (mk z) w) {k : ByteArray} (hk : k.size ≤ maxLen) :
    (Instr.lookup T (.map (some b)) (.string k) false).run P w = .ok (mk ((getL L k).getD z)) w := by
  rw [SMap.look h hK hT hz hk, getL_sh]
  cases getL L k <;> rfl
theorem TMap.look_ok (h : TMap mk P K w b n L) (hK : P.underlying K = some .string) (hT : P.underlying T = some (.map K E)) {z : α} (hz : (zeroValue E).run P w = .ok (mk z) w) {k : ByteArray} (hk : k.size ≤ maxLen) :
    (Instr.lookup T (.map (some b)) (.string k) true).run P w = .ok (.tuple #[mk ((getL L k).getD z), .bool (getL L k).isSome]) w := by
  rw [SMap.look_ok h hK hT hz hk, getL_sh]
  cases getL L k <;> rfl
theorem TMap.store (h : TMap mk P K w b n L) (hK : P.underlying K = some .string) (hT : P.underlying T = some (.map K E)) (hn : n < maxLen) {k : ByteArray} (hk : k.size ≤ maxLen) (v : α) :
    ∃ w', (Instr.mapUpdate T (.map (some b)) (.string k) (mk v)).run P w = .ok () w' ∧ TMap mk P K w' b (n + 1) (putL L k v) ∧ w.grownBy w' (some b) ∧ w'.heap.size = w.heap.size := by
  obtain ⟨w', h1, h2, h3, h4⟩ := SMap.store h hK hT hn hk (mk v)
  rw [putL_sh] at h2
  exact ⟨w', h1, h2, h3, h4⟩
theorem TMap.len (h : TMap mk P K w b n L) (hT : P.underlying T = some (.map K E)) (ty : TypeId) : (Builtin.len_ #[T] ty #[.map (some b)]).run P w = .ok (.int .i64 L.length) w := by
  rw [SMap.len h hT ty, List.length_map]
theorem TMap.le (h : TMap mk P K w b n L) : L.length ≤ n := by have := SMap.le h; rwa [List.length_map] at this
/-- 'm[k] = v' at the operation -/
theorem wpList_store_T {ops : Array Oper} {rest : List Oper} {o : Oper} {a : Act} {Q : Exit → Act → World → Prop} (hg : o.guard = none) (m x v : Operand) (t : TypeId) (hop : o.op = Op.mapUpdate t m x v)
    (hK : P.underlying K = some .string) (ht : P.underlying t = some (.map K E)) (hm : a.eval m = .map (some b)) (h : TMap mk P K w b n L) (hn : n < maxLen) (k : ByteArray) (hk : k.size ≤ maxLen) (u : α) (hx : a.eval x = .string k) (hv : a.eval v = mk u)
    (hC : ∀ w', TMap mk P K w' b (n + 1) (putL L k u) → w.grownBy w' (some b) → w'.heap.size = w.heap.size → wpList P ops Q rest (a.put o.dst undef) w') : wpList P ops Q (o :: rest) a w := by
  refine wpList_plain hg fun K' hK' => ?_
  obtain ⟨w', hrun, r1, r2, r3⟩ := h.store hK ht hn hk u
  unfold Oper.wp
  simp [execOp, hop, hm, hx, hv, hrun, Result.andThen]
  exact hK' _ _ (hC w' r1 r2 r3)
/-- a loop over such a map: left: which keys are still to come -/
structure TRange {α : Type} (mk : α → Value) (P : Program) (K : TypeId) (w : World) (b r n : Nat) (L : List (ByteArray × α)) (left : Lit → Bool) (cnt : Nat) : Prop where
  rng : w.ranges P K vR b r n (mapD (L.map (sh mk))) left cnt
  rise : Rising L
  keys : ∀ p ∈ L, p.1.size ≤ maxLen
theorem TRange.map {r cnt : Nat} {left : Lit → Bool} (h : TRange mk P K w b r n L left cnt) : TMap mk P K w b n L := ⟨h.rng.owns, (rising_sh mk L).2 h.rise, fun p hp => by obtain ⟨q, hq, rfl⟩ := List.mem_map.1 hp; exact h.keys q hq⟩
theorem TRange.kept {r cnt : Nat} {left : Lit → Bool} {w' : World} {row : Option Nat} (h : TRange mk P K w b r n L left cnt) (hg : w.grownBy w' row) (hb : some b ≠ row) (hr : some r ≠ row) : TRange mk P K w' b r n L left cnt := ⟨h.rng.kept hg hb hr, h.rise, h.keys⟩
theorem wpList_range_T {ops : Array Oper} {rest : List Oper} {o : Oper} {a : Act} {Q : Exit → Act → World → Prop} (hg : o.guard = none) (m : Operand) (t : TypeId) (hop : o.op = Op.range t m)
    (hK : P.underlying K = some .string) (ht : P.underlying t = some (.map K E)) (hm : a.eval m = .map (some b)) (h : TMap mk P K w b n L)
    (hC : ∀ w', TRange mk P K w' b w.heap.size n L (Maps.has (mapD (L.map (sh mk)))) L.length → w.grownBy w' none → w'.heap.size = w.heap.size + 1 → wpList P ops Q rest (a.put o.dst (.pointer (some ⟨w.heap.size, 0, none⟩))) w') : wpList P ops Q (o :: rest) a w :=
  wpList_range_own w hg m t hop K E (string_keyed hK) ht vR b n _ hm (SMap.own h) (fun w' h1 h2 h3 => hC w' ⟨by have e := size_mapD (L.map (sh mk)); rw [List.length_map] at e; rw [← e]; exact h1, h.rise, h.keys⟩ h2 h3)
theorem wpList_next_T {ops : Array Oper} {rest : List Oper} {o : Oper} {a : Act} {Q : Exit → Act → World → Prop} (hg : o.guard = none) (it : Operand) (hop : o.op = Op.next it false) (hK : P.underlying K = some .string)
    {r cnt : Nat} {left : Lit → Bool} (hit : a.eval it = .pointer (some ⟨r, 0, none⟩)) (h : TRange mk P K w b r n L left cnt)
    (hDone : cnt = 0 → (∀ k, left k = false) → wpList P ops Q rest (a.put o.dst (.tuple #[.bool false])) w)
    (hMore : ∀ (s : ByteArray) (c : α) (w' : World) (cnt' : Nat), (s, c) ∈ L → left (kLit s) = true → TRange mk P K w' b r n L (fun z => left z && !z.sameKey (kLit s)) cnt' → cnt' < cnt → w.grownBy w' (some r) → w'.heap.size = w.heap.size →
      (Instr.entry (.pointer (some ⟨r, 0, none⟩))).run P w' = .ok (.tuple #[.string s, mk c]) w' → wpList P ops Q rest (a.put o.dst (.tuple #[.bool true, .string s, mk c])) w') : wpList P ops Q (o :: rest) a w := by
  refine wpList_next_ranges w hg it hop K (string_keyed hK) vR Value.string (id : Value → Value) (fun key kl hkey => ?_) (fun v y _ => ⟨v, rfl⟩) b r n _ left cnt hit h.rng hDone (fun x c kl y w' cnt' hkey hlk hv hat hrg hlt hgr hsz hen => ?_)
  · cases key <;> simp [keyOf, hK, mapKey] at hkey
    exact ⟨_, rfl⟩
  · obtain rfl : kl = kLit x := by
      have e := hkey
      simp [keyOf, hK, mapKey] at e
      exact e.2.symm
    obtain rfl : y = (.held c, []) := by simpa [vR] using hv.symm
    have h1 := hat .nil
    rw [at_mapD, getL_sh] at h1
    cases hg2 : getL L x with
    | none => rw [hg2] at h1; cases h1
    | some u =>
      rw [hg2] at h1
      obtain rfl : mk u = c := by simpa using h1
      exact hMore x u w' cnt' (mem_of_getL hg2) hlk ⟨hrg, h.rise, h.keys⟩ hlt hgr hsz hen
theorem has_sh (mk : α → Value) (L : List (ByteArray × α)) (p : ByteArray × α) (hp : p ∈ L) : Maps.has (mapD (L.map (sh mk))) (kLit p.1) = true := by
  rw [has_mapD, getL_sh]
  unfold getL
  cases e : L.find? fun q => decide (q.1 = p.1) with
  | some _ => rfl
  | none =>
    have := List.find?_eq_none.1 e p hp
    simp at this
theorem left_of {x : Lit} (h : Maps.has (mapD (L.map (sh mk))) x = true) : ∃ k, x = kLit k := has_str h
end
end Go.Proofs.YtmmfoeckggpgdaaGreatDoor
set_option linter.unusedSimpArgs false
set_option linter.unusedVariables false
namespace Go.Proofs.YtmmfoeckggpgdaaGreatDoor

/-- a clock: its sources rise by name -/
structure Clk where
  slack : Int
  idle : Int
  now : Int
  mark : Int
  src : List (ByteArray × (Int × Int))
def tickB (v : Int) : Prop := 0 ≤ v ∧ v ≤ 1099511627776
instance (v : Int) : Decidable (tickB v) := by unfold tickB; infer_instance
def within (v : Int) : Int := min (max v 0) 1099511627776
theorem within_tick (v : Int) : tickB (within v) := by unfold tickB within; omega
theorem within_eq (v : Int) : (v = within v) ↔ tickB v := by unfold tickB within; omega
/-- all numbers of a clock are ticks -/
structure ClkOk (c : Clk) : Prop where
  slack : tickB c.slack
  idle : tickB c.idle
  now : tickB c.now
  mark : -1 ≤ c.mark ∧ c.mark ≤ 1099511627776
  at_ : ∀ p ∈ c.src, tickB p.2.1
  heard : ∀ p ∈ c.src, tickB p.2.2
def actC (idle now : Int) (h : Int × Int) : Bool := decide (idle = 0) || decide (now - h.2 ≤ idle)
/-- the least of the active ones -/
structure Least (idle now : Int) (l : List (ByteArray × (Int × Int))) (r : Option Int) : Prop where
  none_ : r = none → ∀ p ∈ l, actC idle now p.2 = false
  some_ : ∀ m, r = some m → (∃ p ∈ l, actC idle now p.2 = true ∧ p.2.1 = m) ∧ ∀ p ∈ l, actC idle now p.2 = true → m ≤ p.2.1
def leastC (idle now : Int) : List (ByteArray × (Int × Int)) → Option Int
  | [] => none
  | p :: l => if actC idle now p.2 = true then some (match leastC idle now l with | none => p.2.1 | some m => min p.2.1 m) else leastC idle now l
theorem least_leastC (idle now : Int) : ∀ l, Least idle now l (leastC idle now l)
  | [] => ⟨(fun _ p hp => absurd hp (by simp)), (fun m h => absurd h (by simp [leastC]))⟩
  | q :: l => by
    have ih := least_leastC idle now l
    unfold leastC
    by_cases h : actC idle now q.2 = true
    · rw [if_pos h]
      refine ⟨(fun e => by cases e), fun m hm => ?_⟩
      cases hl : leastC idle now l with
      | none =>
        rw [hl] at hm
        obtain rfl : q.2.1 = m := by simpa using hm
        refine ⟨⟨q, List.mem_cons_self, h, rfl⟩, fun p hp ha => ?_⟩
        rcases List.mem_cons.1 hp with rfl | hp
        · exact Int.le_refl _
        · rw [ih.none_ hl p hp] at ha; cases ha
      | some k =>
        rw [hl] at hm
        obtain rfl : min q.2.1 k = m := by simpa using hm
        obtain ⟨⟨p, hp, h1, h2⟩, h3⟩ := ih.some_ k hl
        refine ⟨?_, fun z hz ha => ?_⟩
        · by_cases hc : q.2.1 ≤ k
          · exact ⟨q, List.mem_cons_self, h, by omega⟩
          · exact ⟨p, List.mem_cons_of_mem _ hp, h1, by omega⟩
        · rcases List.mem_cons.1 hz with rfl | hz
          · omega
          · have := h3 z hz ha; omega
    · rw [if_neg h]
      refine ⟨fun e p hp => ?_, fun m hm => ?_⟩
      · rcases List.mem_cons.1 hp with rfl | hp
        · simpa using h
        · exact ih.none_ e p hp
      · obtain ⟨⟨p, hp, h1, h2⟩, h3⟩ := ih.some_ m hm
        refine ⟨⟨p, List.mem_cons_of_mem _ hp, h1, h2⟩, fun z hz ha => ?_⟩
        rcases List.mem_cons.1 hz with rfl | hz
        · exact absurd ha h
        · exact h3 z hz ha
theorem Least.unique {idle now : Int} {l : List (ByteArray × (Int × Int))} {r1 r2 : Option Int} (h1 : Least idle now l r1) (h2 : Least idle now l r2) : r1 = r2 := by
  cases r1 with
  | none =>
    cases r2 with
    | none => rfl
    | some m =>
      obtain ⟨⟨p, hp, ha, _⟩, _⟩ := h2.some_ m rfl
      rw [h1.none_ rfl p hp] at ha; cases ha
  | some k =>
    obtain ⟨⟨p, hp, ha, e1⟩, h3⟩ := h1.some_ k rfl
    cases r2 with
    | none => rw [h2.none_ rfl p hp] at ha; cases ha
    | some m =>
      obtain ⟨⟨q, hq, hb, e2⟩, h4⟩ := h2.some_ m rfl
      have h5 := h3 q hq hb
      have h6 := h4 p hp ha
      congr 1; omega
def riseC (c : Clk) : Clk := match leastC c.idle c.now c.src with | none => c | some m => { c with mark := max c.mark (m - c.slack - 1) }
def tickC (c : Clk) (now : Int) : Clk := riseC { c with now := max c.now (within now) }
def hearP (c : Clk) (s : ByteArray) (at_ : Int) : Clk := riseC { c with src := putL c.src s (max at_ ((getL c.src s).getD (0, 0)).1, c.now) }
def newC (slack idle : Int) : Clk := ⟨within slack, within idle, 0, -1, []⟩
theorem newC_ok (slack idle : Int) : ClkOk (newC slack idle) := by
  refine ⟨within_tick _, within_tick _, ?_, ?_, by simp [newC], by simp [newC]⟩
  · unfold tickB newC; simp
  · unfold newC; simp
theorem riseC_ok {c : Clk} (h : ClkOk c) : ClkOk (riseC c) := by
  unfold riseC
  cases e : leastC c.idle c.now c.src with
  | none => exact h
  | some m =>
    obtain ⟨⟨p, hp, _, rfl⟩, _⟩ := (least_leastC c.idle c.now c.src).some_ m e
    have h1 := h.at_ p hp
    have h2 := h.mark
    have h3 := h.slack
    unfold tickB at h1 h3
    refine ⟨h.slack, h.idle, h.now, ?_, h.at_, h.heard⟩
    simp only
    omega
theorem tickC_ok {c : Clk} (h : ClkOk c) (now : Int) : ClkOk (tickC c now) := by
  refine riseC_ok ⟨h.slack, h.idle, ?_, h.mark, h.at_, h.heard⟩
  have h1 := within_tick now
  have h2 := h.now
  unfold tickB at *
  simp only
  omega
theorem hearP_ok {c : Clk} (h : ClkOk c) (s : ByteArray) {at_ : Int} (ha : tickB at_) : ClkOk (hearP c s at_) := by
  refine riseC_ok ⟨h.slack, h.idle, h.now, h.mark, fun p hp => ?_, fun p hp => ?_⟩
  · rcases mem_putL hp with rfl | hp
    · have h1 : tickB ((getL c.src s).getD (0, 0)).1 := by
        cases e : getL c.src s with
        | none => unfold tickB; simp
        | some v => exact h.at_ _ (mem_of_getL e)
      unfold tickB at *
      simp only
      omega
    · exact h.at_ p hp
  · rcases mem_putL hp with rfl | hp
    · exact h.now
    · exact h.heard p hp
theorem riseC_mark (c : Clk) : c.mark ≤ (riseC c).mark := by
  unfold riseC
  split
  · exact Int.le_refl _
  · simp only; omega
theorem riseC_same (c : Clk) : (riseC c).slack = c.slack ∧ (riseC c).idle = c.idle ∧ (riseC c).now = c.now ∧ (riseC c).src = c.src := by
  unfold riseC
  split <;> exact ⟨rfl, rfl, rfl, rfl⟩
theorem tickC_mark (c : Clk) (now : Int) : c.mark ≤ (tickC c now).mark := riseC_mark _
theorem hearP_mark (c : Clk) (s : ByteArray) (at_ : Int) : c.mark ≤ (hearP c s at_).mark := riseC_mark _
theorem riseC_twice (c : Clk) : riseC (riseC c) = riseC c := by
  cases e : leastC c.idle c.now c.src with
  | none =>
    have h : riseC c = c := by unfold riseC; rw [e]
    rw [h, h]
  | some m =>
    have h : riseC c = { c with mark := max c.mark (m - c.slack - 1) } := by unfold riseC; rw [e]
    rw [h]
    unfold riseC
    simp only [e]
    congr 1
    omega
theorem tickC_twice (c : Clk) (now : Int) : tickC (tickC c now) now = tickC c now := by
  obtain ⟨h1, h2, h3, h4⟩ := riseC_same { c with now := max c.now (within now) }
  have e : { tickC c now with now := max (tickC c now).now (within now) } = tickC c now := by
    have : (tickC c now).now = max c.now (within now) := h3
    rw [this]
    have e2 : max (max c.now (within now)) (within now) = max c.now (within now) := by omega
    rw [e2, ← this]
  unfold tickC at e ⊢
  rw [e, riseC_twice]
end Go.Proofs.YtmmfoeckggpgdaaGreatDoor
set_option linter.unusedSimpArgs false
set_option linter.unusedVariables false
namespace Go.Proofs.YtmmfoeckggpgdaaGreatDoor

/-- ranges that rise and don't touch -/
def RowOk (l : List (Int × Int)) : Prop := l.Pairwise (fun p q => p.2 < q.1) ∧ ∀ p ∈ l, 1 ≤ p.1 ∧ p.1 < p.2 ∧ p.2 ≤ 1099511627777
def inR (l : List (Int × Int)) (n : Int) : Bool := l.any fun p => decide (p.1 ≤ n) && decide (n < p.2)
theorem inR_iff {l : List (Int × Int)} {n : Int} : inR l n = true ↔ ∃ p ∈ l, p.1 ≤ n ∧ n < p.2 := by
  unfold inR
  rw [List.any_eq_true]
  constructor
  · rintro ⟨p, hp, h⟩
    simp at h
    exact ⟨p, hp, h.1, h.2⟩
  · rintro ⟨p, hp, h1, h2⟩
    exact ⟨p, hp, by simp [h1, h2]⟩
theorem inR_append (a b : List (Int × Int)) (n : Int) : inR (a ++ b) n = (inR a n || inR b n) := List.any_append
theorem inR_cons (p : Int × Int) (b : List (Int × Int)) (n : Int) : inR (p :: b) n = ((decide (p.1 ≤ n) && decide (n < p.2)) || inR b n) := rfl
theorem inR_nil (n : Int) : inR [] n = false := rfl
/-- how many ranges end at most at a number -/
def placeR (l : List (Int × Int)) (n : Int) : Nat := l.countP fun p => !decide (n < p.2)
/-- a row, parted at a number -/
theorem parted : ∀ (l : List (Int × Int)) (n : Int), RowOk l → ∃ L R, l = L ++ R ∧ L.length = placeR l n ∧ (∀ p ∈ L, p.2 ≤ n) ∧ (∀ p ∈ R, n < p.2)
  | [], n, _ => ⟨[], [], rfl, rfl, by simp, by simp⟩
  | p :: l, n, h => by
    obtain ⟨h1, h2⟩ := h
    obtain ⟨h3, h4⟩ := List.pairwise_cons.1 h1
    by_cases hp : p.2 ≤ n
    · obtain ⟨L, R, e, hl, hL, hR⟩ := parted l n ⟨h4, fun q hq => h2 q (List.mem_cons_of_mem _ hq)⟩
      refine ⟨p :: L, R, by rw [e]; rfl, ?_, ?_, hR⟩
      · unfold placeR at hl ⊢
        rw [List.countP_cons_of_pos (by simp; omega), List.length_cons, hl]
      · intro q hq
        rcases List.mem_cons.1 hq with rfl | hq
        · exact hp
        · exact hL q hq
    · have hall : ∀ q ∈ p :: l, n < q.2 := by
        intro q hq
        rcases List.mem_cons.1 hq with rfl | hq
        · omega
        · have := h3 q hq
          have := h2 q (List.mem_cons_of_mem _ hq)
          omega
      refine ⟨[], p :: l, rfl, ?_, by simp, hall⟩
      symm
      unfold placeR
      rw [List.countP_eq_zero.2 (fun q hq => by have := hall q hq; simp; omega)]
      rfl
theorem rowOk_append {a b : List (Int × Int)} : RowOk (a ++ b) ↔ RowOk a ∧ RowOk b ∧ ∀ p ∈ a, ∀ q ∈ b, p.2 < q.1 := by
  unfold RowOk
  rw [List.pairwise_append]
  constructor
  · rintro ⟨⟨h1, h2, h3⟩, h4⟩
    exact ⟨⟨h1, fun p hp => h4 p (List.mem_append_left _ hp)⟩, ⟨h2, fun p hp => h4 p (List.mem_append_right _ hp)⟩, h3⟩
  · rintro ⟨⟨h1, h4⟩, ⟨h2, h5⟩, h3⟩
    refine ⟨⟨h1, h2, h3⟩, fun p hp => ?_⟩
    rcases List.mem_append.1 hp with hp | hp
    · exact h4 p hp
    · exact h5 p hp
theorem rowOk_cons {p : Int × Int} {b : List (Int × Int)} : RowOk (p :: b) ↔ (1 ≤ p.1 ∧ p.1 < p.2 ∧ p.2 ≤ 1099511627777) ∧ RowOk b ∧ ∀ q ∈ b, p.2 < q.1 := by
  unfold RowOk
  rw [List.pairwise_cons]
  constructor
  · rintro ⟨⟨h1, h2⟩, h3⟩
    exact ⟨h3 p List.mem_cons_self, ⟨h2, fun q hq => h3 q (List.mem_cons_of_mem _ hq)⟩, h1⟩
  · rintro ⟨h1, ⟨h2, h3⟩, h4⟩
    refine ⟨⟨h4, h2⟩, fun q hq => ?_⟩
    rcases List.mem_cons.1 hq with rfl | hq
    · exact h1
    · exact h3 q hq
/-- does the first range begin at most at a number? -/
def headLe (R : List (Int × Int)) (n : Int) : Bool := match R with | [] => false | p :: _ => decide (p.1 ≤ n)
/-- a number is in a row just if the range at its place begins at most there -/
theorem in_parted {L R : List (Int × Int)} {n : Int} (hok : RowOk (L ++ R)) (hL : ∀ p ∈ L, p.2 ≤ n) (hR : ∀ p ∈ R, n < p.2) : inR (L ++ R) n = headLe R n := by
  rw [inR_append]
  have e1 : inR L n = false := by
    cases h : inR L n with
    | false => rfl
    | true =>
      obtain ⟨p, hp, _, h2⟩ := inR_iff.1 h
      have := hL p hp
      omega
  rw [e1, Bool.false_or]
  cases R with
  | nil => rfl
  | cons p R =>
    rw [inR_cons]
    obtain ⟨_, hR2, _⟩ := rowOk_append.1 hok
    obtain ⟨hp, _, hq⟩ := rowOk_cons.1 hR2
    have h2 := hR p List.mem_cons_self
    by_cases h1 : p.1 ≤ n
    · simp [headLe, h1, h2]
    · have : inR R n = false := by
        cases h : inR R n with
        | false => rfl
        | true =>
          obtain ⟨q, hq2, h3, h4⟩ := inR_iff.1 h
          have := hq q hq2
          omega
      rw [this]; simp [headLe, h1]
/-- one more number -/
def PutOk (l : List (Int × Int)) (n : Int) (l' : List (Int × Int)) : Prop := RowOk l' ∧ ∀ m, inR l' m = (decide (m = n) || inR l m)
section
variable {L R : List (Int × Int)} {n : Int}
theorem put_default (hok : RowOk (L ++ R)) (hL : ∀ p ∈ L, p.2 < n) (hR : ∀ p ∈ R, n + 1 < p.1) (hn : 1 ≤ n ∧ n ≤ 1099511627776) : PutOk (L ++ R) n (L ++ (n, n + 1) :: R) := by
  obtain ⟨h1, h2, h3⟩ := rowOk_append.1 hok
  refine ⟨rowOk_append.2 ⟨h1, rowOk_cons.2 ⟨⟨hn.1, by simp only; omega, by simp only; omega⟩, h2, fun q hq => hR q hq⟩, fun p hp q hq => ?_⟩, fun m => ?_⟩
  · rcases List.mem_cons.1 hq with rfl | hq
    · exact hL p hp
    · exact h3 p hp q hq
  · simp only [inR_append, inR_cons]
    have e : (decide (n ≤ m) && decide (m < n + 1)) = decide (m = n) := by rw [Bool.eq_iff_iff]; simp; omega
    rw [e]
    cases decide (m = n) <;> simp
theorem put_before {a : Int} (hok : RowOk ((L ++ [(a, n)]) ++ R)) (hR : ∀ p ∈ R, n + 1 < p.1) (hn : 1 ≤ n ∧ n ≤ 1099511627776) : PutOk ((L ++ [(a, n)]) ++ R) n (L ++ (a, n + 1) :: R) := by
  obtain ⟨h0, h2, h3⟩ := rowOk_append.1 hok
  obtain ⟨h1, h4, h5⟩ := rowOk_append.1 h0
  obtain ⟨h6, _, _⟩ := rowOk_cons.1 h4
  simp only at h6
  refine ⟨rowOk_append.2 ⟨h1, rowOk_cons.2 ⟨⟨h6.1, by simp only; omega, by simp only; omega⟩, h2, fun q hq => hR q hq⟩, fun p hp q hq => ?_⟩, fun m => ?_⟩
  · rcases List.mem_cons.1 hq with rfl | hq
    · exact h5 p hp (a, n) (by simp)
    · exact h3 p (List.mem_append_left _ hp) q hq
  · simp only [inR_append, inR_cons, inR_nil, Bool.or_false]
    have e : (decide (a ≤ m) && decide (m < n + 1)) = (decide (m = n) || (decide (a ≤ m) && decide (m < n))) := by rw [Bool.eq_iff_iff]; simp; omega
    rw [e]
    cases decide (m = n) <;> cases inR L m <;> simp
theorem put_behind {d : Int} (hok : RowOk (L ++ (n + 1, d) :: R)) (hL : ∀ p ∈ L, p.2 < n) (hn : 1 ≤ n ∧ n ≤ 1099511627776) : PutOk (L ++ (n + 1, d) :: R) n (L ++ (n, d) :: R) := by
  obtain ⟨h1, h2, h3⟩ := rowOk_append.1 hok
  obtain ⟨h4, h5, h6⟩ := rowOk_cons.1 h2
  simp only at h4
  refine ⟨rowOk_append.2 ⟨h1, rowOk_cons.2 ⟨⟨hn.1, by simp only; omega, h4.2.2⟩, h5, h6⟩, fun p hp q hq => ?_⟩, fun m => ?_⟩
  · rcases List.mem_cons.1 hq with rfl | hq
    · exact hL p hp
    · exact h3 p hp q (List.mem_cons_of_mem _ hq)
  · simp only [inR_append, inR_cons]
    have e : (decide (n ≤ m) && decide (m < d)) = (decide (m = n) || (decide (n + 1 ≤ m) && decide (m < d))) := by rw [Bool.eq_iff_iff]; simp; omega
    rw [e]
    cases decide (m = n) <;> cases inR L m <;> simp
theorem put_both {a d : Int} (hok : RowOk ((L ++ [(a, n)]) ++ (n + 1, d) :: R)) (hn : 1 ≤ n ∧ n ≤ 1099511627776) : PutOk ((L ++ [(a, n)]) ++ (n + 1, d) :: R) n (L ++ (a, d) :: R) := by
  obtain ⟨h0, h2, h3⟩ := rowOk_append.1 hok
  obtain ⟨h1, h4, h5⟩ := rowOk_append.1 h0
  obtain ⟨h6, _, _⟩ := rowOk_cons.1 h4
  obtain ⟨h7, h8, h9⟩ := rowOk_cons.1 h2
  simp only at h6 h7
  refine ⟨rowOk_append.2 ⟨h1, rowOk_cons.2 ⟨⟨h6.1, by simp only; omega, h7.2.2⟩, h8, h9⟩, fun p hp q hq => ?_⟩, fun m => ?_⟩
  · rcases List.mem_cons.1 hq with rfl | hq
    · exact h5 p hp (a, n) (by simp)
    · exact h3 p (List.mem_append_left _ hp) q (List.mem_cons_of_mem _ hq)
  · simp only [inR_append, inR_cons, inR_nil, Bool.or_false]
    have e : (decide (a ≤ m) && decide (m < d)) = (decide (m = n) || ((decide (a ≤ m) && decide (m < n)) || (decide (n + 1 ≤ m) && decide (m < d)))) := by rw [Bool.eq_iff_iff]; simp; omega
    rw [e]
    cases decide (m = n) <;> cases inR L m <;> cases (decide (a ≤ m) && decide (m < n)) <;> simp
end
/-- rows of the same numbers are one -/
theorem rowOk_ext : ∀ {a b : List (Int × Int)}, RowOk a → RowOk b → (∀ m, inR a m = inR b m) → a = b
  | [], [], _, _, _ => rfl
  | [], q :: b, _, hb, h => by
    obtain ⟨h1, _, _⟩ := rowOk_cons.1 hb
    have := h q.1
    rw [inR_nil, inR_cons] at this
    simp at this
    omega
  | p :: a, [], ha, _, h => by
    obtain ⟨h1, _, _⟩ := rowOk_cons.1 ha
    have := h p.1
    rw [inR_nil, inR_cons] at this
    simp at this
    omega
  | p :: a, q :: b, ha, hb, h => by
    obtain ⟨p1, p2, p3⟩ := rowOk_cons.1 ha
    obtain ⟨q1, q2, q3⟩ := rowOk_cons.1 hb
    have low : ∀ (x : Int × Int) (l : List (Int × Int)), (∀ r ∈ l, x.2 < r.1) → ∀ m, m ≤ x.2 → inR l m = false := by
      intro x l hl m hm
      cases e : inR l m with
      | false => rfl
      | true =>
        obtain ⟨r, hr, h1, h2⟩ := inR_iff.1 e
        have := hl r hr
        omega
    have e1 : p.1 = q.1 := by
      have h1 := h p.1
      have h2 := h q.1
      rw [inR_cons, inR_cons] at h1 h2
      by_cases hc : p.1 < q.1
      · have e3 : (decide (p.1 ≤ p.1) && decide (p.1 < p.2)) = true := by simp; omega
        have e4 : (decide (q.1 ≤ p.1) && decide (p.1 < q.2)) = false := by simp; omega
        rw [low q b q3 p.1 (by omega), e3, e4] at h1
        simp at h1
      · by_cases hd : q.1 < p.1
        · have e3 : (decide (q.1 ≤ q.1) && decide (q.1 < q.2)) = true := by simp; omega
          have e4 : (decide (p.1 ≤ q.1) && decide (q.1 < p.2)) = false := by simp; omega
          rw [low p a p3 q.1 (by omega), e3, e4] at h2
          simp at h2
        · omega
    have e2 : p.2 = q.2 := by
      have h1 := h p.2
      have h2 := h q.2
      rw [inR_cons, inR_cons] at h1 h2
      by_cases hc : p.2 < q.2
      · have e3 : (decide (p.1 ≤ p.2) && decide (p.2 < p.2)) = false := by simp
        have e4 : (decide (q.1 ≤ p.2) && decide (p.2 < q.2)) = true := by simp; omega
        rw [low p a p3 p.2 (by omega), e3, e4] at h1
        simp at h1
      · by_cases hd : q.2 < p.2
        · have e3 : (decide (q.1 ≤ q.2) && decide (q.2 < q.2)) = false := by simp
          have e4 : (decide (p.1 ≤ q.2) && decide (q.2 < p.2)) = true := by simp; omega
          rw [low q b q3 q.2 (by omega), e3, e4] at h2
          simp at h2
        · omega
    obtain rfl : p = q := Prod.ext e1 e2
    congr 1
    refine rowOk_ext p2 q2 (fun m => ?_)
    have h1 := h m
    rw [inR_cons, inR_cons] at h1
    by_cases hm : m ≤ p.2
    · rw [low p a p3 m hm, low p b q3 m hm]
    · have : (decide (p.1 ≤ m) && decide (m < p.2)) = false := by simp; omega
      rwa [this, Bool.false_or, Bool.false_or] at h1
theorem PutOk.unique {l a b : List (Int × Int)} {n : Int} (ha : PutOk l n a) (hb : PutOk l n b) : a = b := rowOk_ext ha.1 hb.1 (fun m => by rw [ha.2, hb.2])
end Go.Proofs.YtmmfoeckggpgdaaGreatDoor
