/-
  From the form's reading of an argument to the kinds of the print: whole numbers, bools, texts, slices, structs of five fields. No program is in sight. What the rows give: readers of events and deeds; how a law's call ends.
-/
import Derived.Test.YtmmfoeckggpgdaaGreatDoorJ2
import Derived.ProofKit
import Derived.Deep.Slices
import Derived.Test.YtmmfoeckggpgdaaGreatDoorPEx
import Derived.Test.YtmmfoeckggpgdaaGreatDoorCards
import Derived.Test.YtmmfoeckggpgdaaGreatDoorTie
import Derived.OpenShut
import Derived.Deep.DeepHandedRow
import Derived.Shelf.Vars
import Derived.Lay
import Derived.Deep.DeepWitnessRowRef
namespace Go.Proofs.YtmmfoeckggpgdaaGreatDoor
open Go.ChangeShapes Go.WideShapes Go.RowKit Go.Deep Go.Proofs.YtmmfoeckggpgdaaGreatDoorW.PrintWords

/-- whatever reads as data of type t has cells of this kind; Q holds of it -/
def Rd (P : Program) (t : TypeId) {α : Type} (d : Kd α) (Q : α → Prop) : Prop :=
  ∀ {H : Type} {enc : TypeId × Value → H} {w : World} {base : Nat} {sp : Nat → Bool} {held : Bool} {fuel : Nat} {cs : List Value} {x : DataW H × List MemPlace}, DataW.trod enc P w base sp held fuel t cs = some x → ∃ a, d.K w a cs ∧ Q a

theorem rd_int {P : Program} {t : TypeId} {k : IntKind} (ht : P.underlying t = some (.int k)) : Rd P t (Kd.int k) (fun n => (Lit.int k n).wf = true) := by
  intro H enc w base sp held fuel cs x h
  obtain ⟨n, rfl, _, hw⟩ := DataW.trod_int ht h
  exact ⟨n, rfl, hw⟩
theorem rd_str {P : Program} {t : TypeId} (ht : P.underlying t = some .string) : Rd P t Kd.string (fun s => s.size ≤ maxLen) := by
  intro H enc w base sp held fuel cs x h
  obtain ⟨s, rfl, _, hs⟩ := DataW.trod_string ht h
  exact ⟨s, rfl, hs⟩

theorem cells?_get {w : World} {base : Nat} {a : Addr} {n : Nat} {cs : List Value} (h : w.cells? base a n = some cs) : cs.length = n ∧ ∀ i u, cs[i]? = some u → w.cell? (a.add i) = some u := by
  unfold World.cells? at h
  split at h
  · have hl := mapM_some_length h
    simp only [List.length_range] at hl
    refine ⟨hl, fun i u hu => ?_⟩
    have hi : i < n := by
      have := (List.getElem?_eq_some_iff.1 hu).1
      omega
    have := mapM_some_get h i i (by simp [hi])
    rw [this, hu]
  · cases h

theorem rd_slice {P : Program} {t e : TypeId} {e' : Nat} {α : Type} {d : Kd α} {Q : α → Prop} (hE : Rd P e d Q) (ht : P.underlying t = some (.slice e)) (hc : P.cellsOf e = d.sz) : Rd P t (Kd.slice e' d) (fun xs => (∀ x ∈ xs, Q x) ∧ xs.length ≤ maxLen) := by
  intro H enc w base sp held fuel cs x h
  rcases open_slice ht h with ⟨rfl, _⟩ | ⟨a, len, cap, m, n, D, Pl, rfl, _, hl, hm, hmm, _, hel⟩
  · exact ⟨[], ⟨none, 0, rfl, Nat.zero_le _, Kd.C_nil _ _⟩, by simp, by simp⟩
  · have hlm : len ≤ m := by rw [hmm]; split <;> omega
    have hch : ∀ i : Fin len, ∃ p : α, Q p ∧ ∃ c : List Value, c.length = d.sz ∧ d.K w p c ∧ ∀ j u, c[j]? = some u → w.cell? (a.add (i.val * d.sz + j)) = some u := by
      intro i
      obtain ⟨cs', h1, h2⟩ := hel i.val (by have := i.isLt; omega)
      obtain ⟨p, hK, hq⟩ := hE h2
      obtain ⟨hlen, hget⟩ := cells?_get h1
      rw [hc] at hlen hget
      refine ⟨p, hq, cs', hlen, hK, fun j u hu => ?_⟩
      rw [← Deep.add_add]
      exact hget j u hu
    let f : Fin len → α := fun i => Classical.choose (hch i)
    have hf : ∀ i, _ := fun i => Classical.choose_spec (hch i)
    have hll : (List.ofFn f).length = len := List.length_ofFn
    refine ⟨List.ofFn f, ⟨some a, cap, by rw [hll], by rw [hll]; exact hl, ?_⟩, ?_, by rw [hll]; omega⟩
    · rw [hll]
      refine ⟨hll, by unfold maxLen at hm; omega, fun _ => ⟨a, rfl, fun j p hj => ?_⟩⟩
      obtain ⟨hj1, rfl⟩ := List.getElem?_eq_some_iff.1 hj
      rw [hll] at hj1
      obtain ⟨_, c, hc1, hc2, hc3⟩ := hf ⟨j, hj1⟩
      exact ⟨c, hc1, by rw [List.getElem_ofFn]; exact hc2, hc3⟩
    · intro y hy
      obtain ⟨i, rfl⟩ := List.mem_ofFn.1 hy
      exact (hf i).1
end Go.Proofs.YtmmfoeckggpgdaaGreatDoor
namespace Go.Proofs.YtmmfoeckggpgdaaGreatDoor
open Go.ChangeShapes Go.WideShapes Go.ChangeAt Go.RowKit Go.Proofs.YtmmfoeckggpgdaaGreatDoorW.PrintWords Go.Proofs.YtmmfoeckggpgdaaGreatDoor.PE

theorem own : ownKnob Tryz.prog.godebug = none := by kernel_rfl
theorem laidOut : laidOutB Tryz.prog = true := by kernel_rfl
theorem wf_i64 {n : Int} (h : (Lit.int .i64 n).wf = true) : -9223372036854775808 ≤ n ∧ n ≤ 9223372036854775807 := bounds_i64 h
theorem cells28 : Tryz.prog.cellsOf 28 = 8 := by kernel_rfl
theorem cells83 : Tryz.prog.cellsOf 83 = 11 := by kernel_rfl
theorem cells9 : Tryz.prog.cellsOf 9 = 1 := by kernel_rfl
theorem cells3 : Tryz.prog.cellsOf 3 = 1 := by kernel_rfl
theorem cells26 : Tryz.prog.cellsOf 26 = 1 := by kernel_rfl
theorem cells5 : Tryz.prog.cellsOf 5 = 1 := by kernel_rfl
/-- an event by its kind -/
def EvOk (x : S28) : Prop := (-9223372036854775808 ≤ x.f1 ∧ x.f1 ≤ 9223372036854775807) ∧ (-9223372036854775808 ≤ x.f2 ∧ x.f2 ≤ 9223372036854775807) ∧ (-9223372036854775808 ≤ x.f3 ∧ x.f3 ≤ 9223372036854775807) ∧ (-9223372036854775808 ≤ x.f6 ∧ x.f6 ≤ 9223372036854775807) ∧ x.f0.size ≤ maxLen ∧ x.f4.size ≤ maxLen ∧ x.f5.size ≤ maxLen ∧ x.f7.size ≤ maxLen
def DeedOk (x : S83) : Prop := EvOk x.f1 ∧ (-9223372036854775808 ≤ x.f2 ∧ x.f2 ≤ 9223372036854775807) ∧ x.f3.size ≤ maxLen ∧ (0 ≤ x.f0 ∧ x.f0 < 256)
theorem wf_u8 {n : Int} (h : (Lit.int .u8 n).wf = true) : 0 ≤ n ∧ n < 256 := by
  have := bounds_u8 h
  omega
set_option maxRecDepth 100000 in
theorem rd_ev : Rd Tryz.prog 28 k28 EvOk := by
  intro H enc w base sp held fuel cs x h
  obtain ⟨xs, n, _, _, hl, hlen, hf⟩ := DataW.trod_struct Tryz.underlying28 h
  rw [cells28] at hl
  obtain ⟨c0, c1, c2, c3, c4, c5, c6, c7, rfl⟩ : ∃ c0 c1 c2 c3 c4 c5 c6 c7, cs = [c0, c1, c2, c3, c4, c5, c6, c7] := by
    match cs, hl with
    | [a0, a1, a2, a3, a4, a5, a6, a7], _ => exact ⟨a0, a1, a2, a3, a4, a5, a6, a7, rfl⟩
  match xs, hlen with
  | [y0, y1, y2, y3, y4, y5, y6, y7], _ =>
    have h0 : DataW.trod enc Tryz.prog w base sp held n 9 [c0] = some y0 := by simpa [cells9] using hf 0 _ rfl
    have h1 : DataW.trod enc Tryz.prog w base sp held n 3 [c1] = some y1 := by simpa [cells3, cells9] using hf 1 _ rfl
    have h2 : DataW.trod enc Tryz.prog w base sp held n 3 [c2] = some y2 := by simpa [cells3, cells9] using hf 2 _ rfl
    have h3 : DataW.trod enc Tryz.prog w base sp held n 26 [c3] = some y3 := by simpa [cells26, cells3, cells9] using hf 3 _ rfl
    have h4 : DataW.trod enc Tryz.prog w base sp held n 9 [c4] = some y4 := by simpa [cells26, cells3, cells9] using hf 4 _ rfl
    have h5 : DataW.trod enc Tryz.prog w base sp held n 9 [c5] = some y5 := by simpa [cells26, cells3, cells9] using hf 5 _ rfl
    have h6 : DataW.trod enc Tryz.prog w base sp held n 3 [c6] = some y6 := by simpa [cells26, cells3, cells9] using hf 6 _ rfl
    have h7 : DataW.trod enc Tryz.prog w base sp held n 9 [c7] = some y7 := by simpa [cells26, cells3, cells9] using hf 7 _ rfl
    obtain ⟨s0, k0, w0⟩ := rd_str Tryz.underlying9 h0
    obtain ⟨n1, k1, w1⟩ := rd_int Tryz.underlying3 h1
    obtain ⟨n2, k2, w2⟩ := rd_int Tryz.underlying3 h2
    obtain ⟨n3, k3, w3⟩ := rd_int Tryz.underlying26 h3
    obtain ⟨s4, k4, w4⟩ := rd_str Tryz.underlying9 h4
    obtain ⟨s5, k5, w5⟩ := rd_str Tryz.underlying9 h5
    obtain ⟨n6, k6, w6⟩ := rd_int Tryz.underlying3 h6
    obtain ⟨s7, k7, w7⟩ := rd_str Tryz.underlying9 h7
    have e0 : c0 = .string s0 := by have q : [c0] = [Value.string s0] := k0; simpa using q
    have e1 : c1 = .int .i64 n1 := by have q : [c1] = [Value.int .i64 n1] := k1; simpa using q
    have e2 : c2 = .int .i64 n2 := by have q : [c2] = [Value.int .i64 n2] := k2; simpa using q
    have e3 : c3 = .int .i64 n3 := by have q : [c3] = [Value.int .i64 n3] := k3; simpa using q
    have e4 : c4 = .string s4 := by have q : [c4] = [Value.string s4] := k4; simpa using q
    have e5 : c5 = .string s5 := by have q : [c5] = [Value.string s5] := k5; simpa using q
    have e6 : c6 = .int .i64 n6 := by have q : [c6] = [Value.int .i64 n6] := k6; simpa using q
    have e7 : c7 = .string s7 := by have q : [c7] = [Value.string s7] := k7; simpa using q
    subst e0 e1 e2 e3 e4 e5 e6 e7
    exact ⟨⟨s0, n1, n2, n3, s4, s5, n6, s7⟩, k28_mk w _, wf_i64 w1, wf_i64 w2, wf_i64 w3, wf_i64 w6, w0, w4, w5, w7⟩
set_option maxRecDepth 100000 in
theorem rd_deed : Rd Tryz.prog 83 k83 DeedOk := by
  intro H enc w base sp held fuel cs x h
  obtain ⟨xs, n, _, _, hl, hlen, hf⟩ := DataW.trod_struct Tryz.underlying83 h
  rw [cells83] at hl
  obtain ⟨c0, c1, c2, c3, c4, c5, c6, c7, c8, c9, c10, rfl⟩ : ∃ c0 c1 c2 c3 c4 c5 c6 c7 c8 c9 c10, cs = [c0, c1, c2, c3, c4, c5, c6, c7, c8, c9, c10] := by
    match cs, hl with
    | [a0, a1, a2, a3, a4, a5, a6, a7, a8, a9, a10], _ => exact ⟨a0, a1, a2, a3, a4, a5, a6, a7, a8, a9, a10, rfl⟩
  match xs, hlen with
  | [y0, y1, y2, y3], _ =>
    have h0 : DataW.trod enc Tryz.prog w base sp held n 5 [c0] = some y0 := by simpa [cells5] using hf 0 _ rfl
    have h1 : DataW.trod enc Tryz.prog w base sp held n 28 [c1, c2, c3, c4, c5, c6, c7, c8] = some y1 := by simpa [cells28, cells5] using hf 1 _ rfl
    have h2 : DataW.trod enc Tryz.prog w base sp held n 3 [c9] = some y2 := by simpa [cells28, cells3, cells5] using hf 2 _ rfl
    have h3 : DataW.trod enc Tryz.prog w base sp held n 9 [c10] = some y3 := by simpa [cells28, cells3, cells9, cells5] using hf 3 _ rfl
    obtain ⟨n0, k0, w0⟩ := rd_int Tryz.underlying5 h0
    obtain ⟨e1, k1, w1⟩ := rd_ev h1
    obtain ⟨n2, k2, w2⟩ := rd_int Tryz.underlying3 h2
    obtain ⟨s3, k3, w3⟩ := rd_str Tryz.underlying9 h3
    have e0 : c0 = .int .u8 n0 := by have q : [c0] = [Value.int .u8 n0] := k0; simpa using q
    have q1 := k28_open k1
    simp only [List.cons.injEq, and_true] at q1
    obtain ⟨rfl, rfl, rfl, rfl, rfl, rfl, rfl, rfl⟩ := q1
    have e2 : c9 = .int .i64 n2 := by have q : [c9] = [Value.int .i64 n2] := k2; simpa using q
    have e3 : c10 = .string s3 := by have q : [c10] = [Value.string s3] := k3; simpa using q
    subst e0 e2 e3
    exact ⟨⟨n0, e1, n2, s3⟩, k83_mk w ⟨n0, e1, n2, s3⟩, w1, wf_i64 w2, w3, wf_u8 w0⟩
theorem rd_deeds : Rd Tryz.prog 38 (Kd.slice 83 k83) (fun xs => (∀ x ∈ xs, DeedOk x) ∧ xs.length ≤ maxLen) := rd_slice rd_deed Tryz.underlying38 cells83
theorem maxLenCell {W : World} (h : W.ShapedOpen Tryz.prog) : ∃ m, W.cell? ⟨0, 0, none⟩ = some (.int .i64 m) :=
  cell_of_shapedOpen_int (P := Tryz.prog) (g := 0) (t := 3) (zero := #[.int .i64 0]) h (of_decide_eq_true (by kernel_rfl)) (by kernel_rfl) rfl (by kernel_rfl) (by kernel_rfl) Tryz.underlying3
/-- how a law's call ends: it answers true; what it was handed is as it was -/
theorem law_post {H : Type} {enc : TypeId × Value → H} {f : Func} {s : ChangeSpec} {W W' : World} {args : Array Value} {ds : List (DataW H)} {before : List MemPlace} (hW : DataW.Whole enc Tryz.prog f.params.toList s.vars false W args.toList ds [] before)
    (hv : s.vars = []) (hr : (s.fn H (ds ++ [])).results = [.lit (.bool true)]) (ha : (s.fn H (ds ++ [])).args = ds) (hz : (s.fn H (ds ++ [])).vars = []) (hrt : f.resultTypes = #[4])
    (hread : ∀ t ∈ f.params.toList, Tryz.prog.readableRec t = true ∧ t < Tryz.prog.types.size) (hb : Below W.heap.size W W') : s.post enc Tryz.prog f false true false false W args (.bool true) W' := by
  have hW' := hW
  obtain ⟨p, q, hA, hV, rfl, _, _⟩ := hW
  rw [hv] at hV
  obtain ⟨_, rfl⟩ := trodVars_none hV
  have hlt : ∀ x ∈ p, x.block < W.heap.size := fun x hx => hW'.lt x (by simpa using hx)
  have hall : ∀ (ts : List TypeId) (vs : List Value) (es : List (DataW H)) (ps : List MemPlace), (∀ t ∈ ts, Tryz.prog.readableRec t = true ∧ t < Tryz.prog.types.size) → (∀ x ∈ ps, x.block < W.heap.size) → DataW.TrodAll enc Tryz.prog W 0 (fun _ => true) true ts vs es ps → DataW.TrodAll enc Tryz.prog W' 0 (fun b => decide (b < W.heap.size)) true ts vs es ps := by
    intro ts
    induction ts with
    | nil =>
      intro vs es ps _ _ h
      obtain ⟨rfl, rfl, rfl⟩ := trodAll_nil h
      exact trodAll_mk0
    | cons t ts ih =>
      intro vs es ps hr hlt h
      obtain ⟨v, vs', d, ds', p1, p2, rfl, rfl, rfl, h1, h2⟩ := trodAll_cons h
      have h3 := ih vs' ds' p2 (fun t ht => hr t (List.mem_cons_of_mem _ ht)) (fun x hx => hlt x (List.mem_append_right _ hx)) h2
      have h4 := Below.trod laidOut (hr t List.mem_cons_self).1 (hr t List.mem_cons_self).2 h1 hb (fun x hx => hlt x (List.mem_append_left _ hx))
      exact trodAll_cons_mk h4 h3
  refine ⟨_, _, _, [], p ++ [], [], hW', ?_, ?_, ?_, hb.frame _, fun h => by cases h⟩
  · rw [hr, hrt]
    exact trodAll_cons_mk (shut_bool Tryz.underlying4 _) trodAll_mk0
  · rw [ha, List.append_nil]
    exact hall _ _ _ _ hread hlt hA
  · rw [hz, hv]; rfl
end Go.Proofs.YtmmfoeckggpgdaaGreatDoor
