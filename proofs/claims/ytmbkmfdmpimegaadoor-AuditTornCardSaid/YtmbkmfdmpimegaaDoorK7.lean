/-
  From the form's reading of an argument to the kinds of the print: whole numbers, bools, texts, slices, structs of five fields. No program is in sight. What the rows' lists give, the world of their witness, and how a law's call ends: over the tables of three. What the rows' lists of seven and the form's shape give: the package variables that the library reads; the witness's world.
-/
import Derived.Test.YtmbkmfdmpimegaaDoorK1
import Derived.ProofKit
import Derived.Deep.Slices
import Derived.Test.YtmbkmfdmpimegaaDoorCards
import Derived.Test.YtmbkmfdmpimegaaDoorTie
import Derived.OpenShut
import Derived.Deep.DeepHandedRow
import Derived.Stop.LaidErr
import Derived.Lib.LaidTab
import Derived.Test.YtmbkmfdmpimegaaDoorK4
import Derived.Shelf.Vars
import Derived.Lay
import Derived.Deep.DeepWitnessRowRef
namespace Go.Proofs.YtmbkmfdmpimegaaDoor
open Go.ChangeShapes Go.WideShapes Go.RowKit Go.Deep Go.Proofs.YtmbkmfdmpimegaaDoorW.PrintWords

/-- whatever reads as data of type t has cells of this kind; Q holds of it -/
def Rd (P : Program) (t : TypeId) {α : Type} (d : Kd α) (Q : α → Prop) : Prop :=
  ∀ {H : Type} {enc : TypeId × Value → H} {w : World} {base : Nat} {sp : Nat → Bool} {held : Bool} {fuel : Nat} {cs : List Value} {x : DataW H × List MemPlace}, DataW.trod enc P w base sp held fuel t cs = some x → ∃ a, d.K w a cs ∧ Q a

theorem rd_int {P : Program} {t : TypeId} {k : IntKind} (ht : P.underlying t = some (.int k)) : Rd P t (Kd.int k) (fun n => (Lit.int k n).wf = true) := by
  intro H enc w base sp held fuel cs x h
  obtain ⟨n, rfl, _, hw⟩ := DataW.trod_int ht h
  exact ⟨n, rfl, hw⟩
theorem rd_str {P : Program} {t : TypeId} (ht : P.underlying t = some .string) : Rd P t Kd.string (fun s => s.size ≤ maxLen) := by
  intro H enc w base sp held fuel cs x h
  obtain ⟨s, rfl, _, hs⟩ := DataW.trod_string ht h
  exact ⟨s, rfl, hs⟩

theorem cells?_get {w : World} {base : Nat} {a : Addr} {n : Nat} {cs : List Value} (h : w.cells? base a n = some cs) : cs.length = n ∧ ∀ i u, cs[i]? = some u → w.cell? (a.add i) = some u := by
  unfold World.cells? at h
  split at h
  · have hl := mapM_some_length h
    simp only [List.length_range] at hl
    refine ⟨hl, fun i u hu => ?_⟩
    have hi : i < n := by
      have := (List.getElem?_eq_some_iff.1 hu).1
      omega
    have := mapM_some_get h i i (by simp [hi])
    rw [this, hu]
  · cases h

theorem rd_slice {P : Program} {t e : TypeId} {e' : Nat} {α : Type} {d : Kd α} {Q : α → Prop} (hE : Rd P e d Q) (ht : P.underlying t = some (.slice e)) (hc : P.cellsOf e = d.sz) : Rd P t (Kd.slice e' d) (fun xs => (∀ x ∈ xs, Q x) ∧ xs.length ≤ maxLen) := by
  intro H enc w base sp held fuel cs x h
  rcases open_slice ht h with ⟨rfl, _⟩ | ⟨a, len, cap, m, n, D, Pl, rfl, _, hl, hm, hmm, _, hel⟩
  · exact ⟨[], ⟨none, 0, rfl, Nat.zero_le _, Kd.C_nil _ _⟩, by simp, by simp⟩
  · have hlm : len ≤ m := by rw [hmm]; split <;> omega
    have hch : ∀ i : Fin len, ∃ p : α, Q p ∧ ∃ c : List Value, c.length = d.sz ∧ d.K w p c ∧ ∀ j u, c[j]? = some u → w.cell? (a.add (i.val * d.sz + j)) = some u := by
      intro i
      obtain ⟨cs', h1, h2⟩ := hel i.val (by have := i.isLt; omega)
      obtain ⟨p, hK, hq⟩ := hE h2
      obtain ⟨hlen, hget⟩ := cells?_get h1
      rw [hc] at hlen hget
      refine ⟨p, hq, cs', hlen, hK, fun j u hu => ?_⟩
      rw [← Deep.add_add]
      exact hget j u hu
    let f : Fin len → α := fun i => Classical.choose (hch i)
    have hf : ∀ i, _ := fun i => Classical.choose_spec (hch i)
    have hll : (List.ofFn f).length = len := List.length_ofFn
    refine ⟨List.ofFn f, ⟨some a, cap, by rw [hll], by rw [hll]; exact hl, ?_⟩, ?_, by rw [hll]; omega⟩
    · rw [hll]
      refine ⟨hll, by unfold maxLen at hm; omega, fun _ => ⟨a, rfl, fun j p hj => ?_⟩⟩
      obtain ⟨hj1, rfl⟩ := List.getElem?_eq_some_iff.1 hj
      rw [hll] at hj1
      obtain ⟨_, c, hc1, hc2, hc3⟩ := hf ⟨j, hj1⟩
      exact ⟨c, hc1, by rw [List.getElem_ofFn]; exact hc2, hc3⟩
    · intro y hy
      obtain ⟨i, rfl⟩ := List.mem_ofFn.1 hy
      exact (hf i).1
end Go.Proofs.YtmbkmfdmpimegaaDoor
namespace Go.Proofs.YtmbkmfdmpimegaaDoor
open Go.ChangeShapes Go.WideShapes Go.ChangeAt Go.RowKit Go.Proofs.YtmbkmfdmpimegaaDoorW.PrintWords Go.Proofs.YtmbkmfdmpimegaaDoor.PR

theorem own : ownKnob Tryd.prog.godebug = none := by kernel_rfl
theorem laidOut : laidOutB Tryd.prog = true := by kernel_rfl
theorem gPow : Tryd.prog.globalNamed "internal/strconv.uint64pow10" = some 3 := by kernel_rfl
theorem gPowType : (Tryd.prog.globals[3]?).map (·.type) = some 117 := by kernel_rfl
theorem cells117 : Tryd.prog.cellsOf 117 = 20 := by kernel_rfl
theorem cells22 : Tryd.prog.cellsOf 22 = 1 := by kernel_rfl
theorem powData {H : Type} : (Rows.laid_internal_strconv_uint64pow10 : DataW H) = Lib.tabData .u64 Lib.pow10Tab := by rfl
/-- the table out of the list of three -/
theorem tab_of_laid {a b : String × DataW Unit} {W : World} {rest : List (String × DataW Unit)} (h : laidMet Tryd.prog (a :: b :: ("internal/strconv.uint64pow10", Rows.laid_internal_strconv_uint64pow10) :: rest) W) : Tab W := by
  have h2 := h.tail.tail
  rw [powData] at h2
  exact Lib.tabIs_of_head gPow gPowType Tryd.underlying117 Tryd.underlying22 cells22 cells117 h2

/-- an entry by its kind -/
def EntOk (x : S30) : Prop := -9223372036854775808 ≤ x.f0 ∧ x.f0 ≤ 9223372036854775807 ∧ -9223372036854775808 ≤ x.f1 ∧ x.f1 ≤ 9223372036854775807 ∧ 0 ≤ x.f4 ∧ x.f4 < 18446744073709551616 ∧ x.f2.size ≤ maxLen ∧ ∀ s ∈ x.f3, s.size ≤ maxLen
theorem wf_i64 {n : Int} (h : (Lit.int .i64 n).wf = true) : -9223372036854775808 ≤ n ∧ n ≤ 9223372036854775807 := bounds_i64 h
theorem wf_u64 {n : Int} (h : (Lit.int .u64 n).wf = true) : 0 ≤ n ∧ n < 18446744073709551616 := by
  have := bounds_u64 h
  omega
theorem cells30 : Tryd.prog.cellsOf 30 = 5 := by kernel_rfl
theorem cells9 : Tryd.prog.cellsOf 9 = 1 := by kernel_rfl
theorem cells3 : Tryd.prog.cellsOf 3 = 1 := by kernel_rfl
theorem cells28 : Tryd.prog.cellsOf 28 = 1 := by kernel_rfl
theorem rd_strs : Rd Tryd.prog 28 (Kd.slice 9 Kd.string) (fun xs => (∀ x ∈ xs, x.size ≤ maxLen) ∧ xs.length ≤ maxLen) := rd_slice (rd_str Tryd.underlying9) Tryd.underlying28 cells9
set_option maxRecDepth 100000 in
theorem rd_ent : Rd Tryd.prog 30 k30 EntOk := by
  intro H enc w base sp held fuel cs x h
  obtain ⟨xs, n, _, _, hl, hlen, hf⟩ := DataW.trod_struct Tryd.underlying30 h
  rw [cells30] at hl
  obtain ⟨c0, c1, c2, c3, c4, rfl⟩ : ∃ c0 c1 c2 c3 c4, cs = [c0, c1, c2, c3, c4] := by
    match cs, hl with
    | [a, b, c, d, e], _ => exact ⟨a, b, c, d, e, rfl⟩
  match xs, hlen with
  | [y0, y1, y2, y3, y4], _ =>
    have h0 : DataW.trod enc Tryd.prog w base sp held n 3 [c0] = some y0 := by simpa [cells3] using hf 0 _ rfl
    have h1 : DataW.trod enc Tryd.prog w base sp held n 3 [c1] = some y1 := by simpa [cells3] using hf 1 _ rfl
    have h2 : DataW.trod enc Tryd.prog w base sp held n 9 [c2] = some y2 := by simpa [cells3, cells9] using hf 2 _ rfl
    have h3 : DataW.trod enc Tryd.prog w base sp held n 28 [c3] = some y3 := by simpa [cells3, cells9, cells28] using hf 3 _ rfl
    have h4 : DataW.trod enc Tryd.prog w base sp held n 22 [c4] = some y4 := by simpa [cells3, cells9, cells28, cells22] using hf 4 _ rfl
    obtain ⟨n0, k0, w0⟩ := rd_int Tryd.underlying3 h0
    obtain ⟨n1, k1, w1⟩ := rd_int Tryd.underlying3 h1
    obtain ⟨s2, k2, w2⟩ := rd_str Tryd.underlying9 h2
    obtain ⟨l3, k3, w3⟩ := rd_strs h3
    obtain ⟨n4, k4, w4⟩ := rd_int Tryd.underlying22 h4
    obtain ⟨A, c, e3, hlc, hC⟩ := k3
    have e0 : c0 = .int .i64 n0 := by have k0' : [c0] = [Value.int .i64 n0] := k0; simpa using k0'
    have e1 : c1 = .int .i64 n1 := by have k0' : [c1] = [Value.int .i64 n1] := k1; simpa using k0'
    have e2 : c2 = .string s2 := by have k0' : [c2] = [Value.string s2] := k2; simpa using k0'
    have e3' : c3 = .slice A l3.length c := by simpa using e3
    have e4 : c4 = .int .u64 n4 := by have k0' : [c4] = [Value.int .u64 n4] := k4; simpa using k0'
    subst e0 e1 e2 e3' e4
    have a0 := wf_i64 w0
    have a1 := wf_i64 w1
    have a4 := wf_u64 w4
    exact ⟨⟨n0, n1, s2, l3, n4⟩, k30_mk w ⟨n0, n1, s2, l3, n4⟩ hlc hC, a0.1, a0.2, a1.1, a1.2, a4.1, a4.2, w2, w3.1⟩
theorem rd_ents : Rd Tryd.prog 23 (Kd.slice 30 k30) (fun xs => (∀ x ∈ xs, EntOk x) ∧ xs.length ≤ maxLen) := rd_slice rd_ent Tryd.underlying23 cells30

/-- the world of the witness: the tables hold what their initialisers lay -/
def tab32 : List Int := [0, 1, 28, 2, 29, 14, 24, 3, 30, 22, 20, 15, 25, 17, 4, 8, 31, 27, 13, 23, 21, 19, 16, 7, 26, 12, 18, 6, 11, 5, 10, 9]
def tab64 : List Int := [0, 1, 56, 2, 57, 49, 28, 3, 61, 58, 42, 50, 38, 29, 17, 4, 62, 47, 59, 36, 45, 43, 51, 22, 53, 39, 33, 30, 24, 18, 12, 5, 63, 55, 48, 27, 60, 41, 37, 16, 46, 35, 44, 21, 52, 32, 23, 11, 54, 26, 40, 15, 34, 20, 31, 10, 25, 14, 19, 9, 13, 8, 7, 6]
def laying (h : Array Obj) (g : Nat) (k : IntKind) (zs : List Int) : Array Obj :=
  h.modify g fun
    | .cells _ t frozen => .cells (zs.map (Value.int k)).toArray t frozen
    | o => o
noncomputable def laidWorld (os : Os) : World :=
  { World.holding Tryd.prog os ⟨#[], #[], []⟩ with heap := laying (laying (laying (World.holding Tryd.prog os ⟨#[], #[], []⟩).heap 3 .u64 Lib.pow10Tab) 4 .u8 tab32) 5 .u8 tab64 }

/-- how a law's call ends: it answers true; what it was handed is as it was -/
theorem law_post {H : Type} {enc : TypeId × Value → H} {f : Func} {s : ChangeSpec} {W W' : World} {args : Array Value} {ds : List (DataW H)} {before : List MemPlace} (hW : DataW.Whole enc Tryd.prog f.params.toList s.vars false W args.toList ds [] before)
    (hv : s.vars = []) (hr : (s.fn H (ds ++ [])).results = [.lit (.bool true)]) (ha : (s.fn H (ds ++ [])).args = ds) (hz : (s.fn H (ds ++ [])).vars = []) (hrt : f.resultTypes = #[4])
    (hread : ∀ t ∈ f.params.toList, Tryd.prog.readableRec t = true ∧ t < Tryd.prog.types.size) (hb : Below W.heap.size W W') : s.post enc Tryd.prog f false true false false W args (.bool true) W' := by
  have hW' := hW
  obtain ⟨p, q, hA, hV, rfl, _, _⟩ := hW
  rw [hv] at hV
  obtain ⟨_, rfl⟩ := trodVars_none hV
  have hlt : ∀ x ∈ p, x.block < W.heap.size := fun x hx => hW'.lt x (by simpa using hx)
  have hall : ∀ (ts : List TypeId) (vs : List Value) (es : List (DataW H)) (ps : List MemPlace), (∀ t ∈ ts, Tryd.prog.readableRec t = true ∧ t < Tryd.prog.types.size) → (∀ x ∈ ps, x.block < W.heap.size) → DataW.TrodAll enc Tryd.prog W 0 (fun _ => true) true ts vs es ps → DataW.TrodAll enc Tryd.prog W' 0 (fun b => decide (b < W.heap.size)) true ts vs es ps := by
    intro ts
    induction ts with
    | nil =>
      intro vs es ps _ _ h
      obtain ⟨rfl, rfl, rfl⟩ := trodAll_nil h
      exact trodAll_mk0
    | cons t ts ih =>
      intro vs es ps hr hlt h
      obtain ⟨v, vs', d, ds', p1, p2, rfl, rfl, rfl, h1, h2⟩ := trodAll_cons h
      have h3 := ih vs' ds' p2 (fun t ht => hr t (List.mem_cons_of_mem _ ht)) (fun x hx => hlt x (List.mem_append_right _ hx)) h2
      have h4 := Below.trod laidOut (hr t List.mem_cons_self).1 (hr t List.mem_cons_self).2 h1 hb (fun x hx => hlt x (List.mem_append_left _ hx))
      exact trodAll_cons_mk h4 h3
  refine ⟨_, _, _, [], p ++ [], [], hW', ?_, ?_, ?_, hb.frame _, fun h => by cases h⟩
  · rw [hr, hrt]
    exact trodAll_cons_mk (shut_bool Tryd.underlying4 _) trodAll_mk0
  · rw [ha, List.append_nil]
    exact hall _ _ _ _ hread hlt hA
  · rw [hz, hv]; rfl
end Go.Proofs.YtmbkmfdmpimegaaDoor
namespace Go.Proofs.YtmbkmfdmpimegaaDoor
open Go.ChangeShapes Go.WideShapes Go.ChangeAt Go.RowKit Go.Proofs.YtmbkmfdmpimegaaDoorW.PrintWords Go.Proofs.YtmbkmfdmpimegaaDoor.PR

theorem gRange : Tryd.prog.globalNamed "strconv.ErrRange" = some 2 := by kernel_rfl
theorem gBad : Tryd.prog.globalNamed "strconv.ErrSyntax" = some 1 := by kernel_rfl
theorem tRange : (Tryd.prog.globals[2]?).map (·.type) = some 65 := by kernel_rfl
theorem tBad : (Tryd.prog.globals[1]?).map (·.type) = some 65 := by kernel_rfl
theorem star : "*" ++ "errors.errorString" = "*errors.errorString" := by decide
theorem row127 (u : TypeId) (h : Tryd.prog.typeName? 3 u = some "*errors.errorString") : u = 127 :=
  typeName_ptr_named (nm := "errors.errorString") (by rw [star]; kernel_rfl) (by kernel_rfl) (by decide) u (by rw [star]; exact h)
theorem cells129 : Tryd.prog.cellsOf 129 = 1 := by kernel_rfl
theorem maxLenCell {W : World} (h : W.ShapedOpen Tryd.prog) : ∃ m, W.cell? ⟨0, 0, none⟩ = some (.int .i64 m) :=
  cell_of_shapedOpen_int (P := Tryd.prog) (g := 0) (t := 3) (zero := #[.int .i64 0]) h (of_decide_eq_true (by kernel_rfl)) (by kernel_rfl) rfl (by kernel_rfl) (by kernel_rfl) Tryd.underlying3
/-- what the library reads, out of the list of seven -/
theorem env_of_laid {W : World} (hL : laidMetH Tryd.prog Rows.auditTornRow.laid W) (hS : W.ShapedOpen Tryd.prog) : Env W := by
  have hL' : laidMet Tryd.prog Rows.auditTornRow.laid W := hL
  obtain ⟨a1, s1, hv1, _, _, _⟩ := laid_sentinel hL'.tail.tail.tail.tail gRange tRange Tryd.underlying65 row127 Tryd.underlying127 Tryd.underlying129 rfl rfl Tryd.underlying9 cells129 cells9
  obtain ⟨a2, s2, hv2, _, _, _⟩ := laid_sentinel hL'.tail.tail.tail.tail.tail gBad tBad Tryd.underlying65 row127 Tryd.underlying127 Tryd.underlying129 rfl rfl Tryd.underlying9 cells129 cells9
  exact ⟨tab_of_laid hL', maxLenCell hS, ⟨_, by simpa using World.var?_cell gBad hv2 0, .inr ⟨_, _, rfl⟩⟩, ⟨_, by simpa using World.var?_cell gRange hv1 0, .inr ⟨_, _, rfl⟩⟩⟩
theorem laid_met7 (os : Os) (args : Array Value) : laidMetH Tryd.prog Rows.auditTornRow.laid ((World.laidAll Tryd.prog os Rows.auditTornRow.laid).forCall (fun _ _ => 0) ⟨#[], args, []⟩).memory :=
  (show laidMet Tryd.prog Rows.auditTornRow.laid ((World.laidAll Tryd.prog os Rows.auditTornRow.laid).forCall (fun _ _ => 0) ⟨#[], args, []⟩).memory from laidMet_laidAll _ (by kernel_rfl) (by kernel_rfl))
end Go.Proofs.YtmbkmfdmpimegaaDoor
