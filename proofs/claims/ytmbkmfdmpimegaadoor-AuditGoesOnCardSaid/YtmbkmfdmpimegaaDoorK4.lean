/-
  Numbers out of texts, as the library reads them: what ParseUint and Atoi answer at every text. The walk of entry's number: a word's number; whether all were numbers is kept.
-/
import Derived.Test.YtmbkmfdmpimegaaDoorK3
import Derived.Test.YtmbkmfdmpimegaaDoorShelfB
set_option linter.unusedVariables false
namespace Go.Proofs.YtmbkmfdmpimegaaDoor
open Go.RowKit Go.Lib Go.Sort Go.Proofs.YtmbkmfdmpimegaaDoorW.PrintWords Go.Proofs.YtmbkmfdmpimegaaDoor.PR

/-- the package variables that the library reads -/
structure Env (w : World) : Prop where
  tab : Tab w
  len : ∃ m, w.cell? ⟨0, 0, none⟩ = some (.int .i64 m)
  bad : ∃ ev, w.cell? ⟨1, 0, none⟩ = some ev ∧ (ev = .nilIface ∨ ∃ te pe, ev = .iface te pe)
  far : ∃ ev, w.cell? ⟨2, 0, none⟩ = some ev ∧ (ev = .nilIface ∨ ∃ te pe, ev = .iface te pe)
theorem cell_below_any {N : Nat} {w W : World} {a : Addr} {v : Value} (h : w.cell? a = some v) (hb : Below w.heap.size w W) : W.cell? a = some v := pw_cell_below hb h
theorem Env.below {w W : World} (h : Env w) (hb : Below w.heap.size w W) : Env W := by
  obtain ⟨h0, ⟨m, h1⟩, ⟨e2, h2, h2'⟩, ⟨e3, h3, h3'⟩⟩ := h
  exact ⟨h0.below hb, ⟨m, pw_cell_below hb h1⟩, ⟨e2, pw_cell_below hb h2, h2'⟩, ⟨e3, pw_cell_below hb h3, h3'⟩⟩
/-- an error that is there just if it isn't right -/
def errV (b : Bool) (ev : Value) : Prop := if b = true then ev = .nilIface else ∃ N : Nat, ev = .iface 93 (.pointer (some ⟨N, 0, none⟩))
/-- a number of 64 bits; false: it is none -/
def puB (s : ByteArray) : Nat × Bool :=
  match Lib.parseUintB 64 s.data.toList with
  | .ok u => (u, true)
  | .range => (18446744073709551615, false)
  | _ => (0, false)
/-- a whole number; false: it is none -/
def piB (s : ByteArray) : Int × Bool :=
  match Lib.atoiAll s.data.toList with
  | .ok v => (v, true)
  | .range => (Lib.atoiSat s.data.toList, false)
  | _ => (0, false)
theorem puB_lt (s : ByteArray) : (puB s).1 < 18446744073709551616 := by
  unfold puB
  cases h : Lib.parseUintB 64 s.data.toList with
  | ok u => have := Lib.parseUintB_le h; simp only; omega
  | range => decide
  | _ => decide
theorem parseU_calls (s : ByteArray) (hs : s.size ≤ 281474976710656) (w : World) (he : Env w) :
    Calls Tryd.prog 35 #[.string s, .int .i64 10, .int .i64 64] w fun e w' => (∃ ev, e = .returned (.tuple #[.int .u64 (puB s).1, ev]) ∧ errV (puB s).2 ev) ∧ Below w.heap.size w w' := by
  obtain ⟨_, _, ⟨e2, h2, h2'⟩, ⟨e3, h3, h3'⟩⟩ := he
  unfold puB
  cases h : Lib.parseUintB 64 s.data.toList with
  | ok u =>
    refine (Tryd.strconv_ParseUint_10_at64_ok s (by omega) u h w).mono ?_
    rintro e w' ⟨rfl, hw⟩
    refine ⟨⟨_, rfl, rfl⟩, ?_⟩
    rcases hw with rfl | rfl
    · exact Below.refl _ _
    · exact Lib.bytesWorld_below _ _ _
  | range =>
    refine (Tryd.strconv_ParseUint_10_at64_range s hs h e3 w h3 h3').mono ?_
    rintro e w' ⟨N, rfl, _, _, hb⟩
    exact ⟨⟨_, rfl, N, rfl⟩, hb⟩
  | _ =>
    refine (Tryd.strconv_ParseUint_10_at64_bad s hs h e2 w h2 h2').mono ?_
    rintro e w' ⟨N, rfl, _, _, hb⟩
    exact ⟨⟨_, rfl, N, rfl⟩, hb⟩
theorem parseI_calls (s : ByteArray) (hs : s.size ≤ 281474976710656) (w : World) (he : Env w) :
    Calls Tryd.prog 52 #[.string s] w fun e w' => (∃ ev, e = .returned (.tuple #[.int .i64 (piB s).1, ev]) ∧ errV (piB s).2 ev) ∧ Below w.heap.size w w' := by
  obtain ⟨_, _, ⟨e2, h2, h2'⟩, ⟨e3, h3, h3'⟩⟩ := he
  unfold piB
  cases h : Lib.atoiAll s.data.toList with
  | ok v =>
    refine (Tryd.strconv_Atoi_ok s (by omega) v h w).mono ?_
    rintro e w' ⟨rfl, hw⟩
    refine ⟨⟨_, rfl, rfl⟩, ?_⟩
    rcases hw with rfl | ⟨t, rfl⟩
    · exact Below.refl _ _
    · exact Lib.bytesWorld_below _ _ _
  | range =>
    refine (Tryd.strconv_Atoi_range s hs h e3 w h3 h3').mono ?_
    rintro e w' ⟨N, rfl, _, _, hb⟩
    exact ⟨⟨_, rfl, N, rfl⟩, hb⟩
  | _ =>
    refine (Tryd.strconv_Atoi_bad s hs h e2 w h2 h2').mono ?_
    rintro e w' ⟨N, rfl, _, _, hb⟩
    exact ⟨⟨_, rfl, N, rfl⟩, hb⟩
end Go.Proofs.YtmbkmfdmpimegaaDoor
set_option linter.unusedVariables false
namespace Go.Proofs.YtmbkmfdmpimegaaDoor
open Go.RowKit Go.Lib Go.Sort Go.Proofs.YtmbkmfdmpimegaaDoorW.PrintWords Go.Proofs.YtmbkmfdmpimegaaDoor.PR

theorem one_get {W : World} {g : Nat} {a : Value} {t : TypeId} (h : W.heap[g]? = some (.cells #[a] t (0, 0))) : W.cell? ⟨g, 0, none⟩ = some a := blk_cell h 0
set_option maxRecDepth 100000 in
theorem num_calls (s : ByteArray) (B : Nat) (b : Bool) (w : World) (hc : w.heap[B]? = some (.cells #[.bool b] 4 (0, 0))) (hs : s.size ≤ 281474976710656) (he : Env w) :
    Calls Tryd.prog 51 #[.string s, .pointer (some ⟨B, 0, none⟩)] w fun e w' => e = .returned (.int .i64 (piB s).1) ∧ Fr (one B) w w' ∧ w'.heap[B]? = some (.cells #[.bool (b && (piB s).2)] 4 (0, 0)) := by
  have HC := Aside0.mk hc
  clear hc
  go_enter Tryd.func51, Tryd.ntmps51
  go_wp2_with fail
  refine (parseI_calls s hs w he).mono ?_
  rintro e w1 ⟨⟨ev, rfl, hev⟩, hb⟩
  have B1 := blk_below HC.out hb
  have c1 := one_get B1
  have f1 := blk_frozen B1
  have H1 := Aside0.mk B1
  have HF : Aside0 (Fr (one B) w w1) := ⟨Fr.of_below hb _⟩
  clear hb B1 he
  obtain ⟨v, r, hpi⟩ : ∃ v r, piB s = (v, r) := ⟨_, _, rfl⟩
  rw [hpi] at hev ⊢
  have HP := Aside0.mk hpi
  clear hpi
  cases r with
  | true =>
    obtain rfl : ev = .nilIface := hev
    cases b with
    | true =>
      go_wp2
      go_ret
      rw [HP.out]
      exact ⟨rfl, HF.out.setCell (p := ⟨B, 0, none⟩) (.inl rfl) _, blk_set H1.out 0 _⟩
    | false =>
      go_wp2
      go_ret
      rw [HP.out]
      exact ⟨rfl, HF.out.setCell (p := ⟨B, 0, none⟩) (.inl rfl) _, blk_set H1.out 0 _⟩
  | false =>
    obtain ⟨N, rfl⟩ : ∃ N : Nat, ev = .iface 93 (.pointer (some ⟨N, 0, none⟩)) := hev
    cases b with
    | true =>
      go_wp2
      go_ret
      rw [HP.out]
      exact ⟨rfl, HF.out.setCell (p := ⟨B, 0, none⟩) (.inl rfl) _, blk_set H1.out 0 _⟩
    | false =>
      go_wp2
      go_ret
      rw [HP.out]
      exact ⟨rfl, HF.out.setCell (p := ⟨B, 0, none⟩) (.inl rfl) _, blk_set H1.out 0 _⟩
end Go.Proofs.YtmbkmfdmpimegaaDoor
