/-
  The walk of the law AuditChecks: it answers true.
-/
import Derived.Test.YtmbkmfdmpimegaaDoorA11
namespace Go.Proofs.YtmbkmfdmpimegaaDoor
open Go.RowKit Go.Lib Go.Sort Go.Proofs.YtmbkmfdmpimegaaDoorW.PrintWords Go.Proofs.YtmbkmfdmpimegaaDoor.PR

set_option maxRecDepth 100000 in
set_option maxHeartbeats 1000000 in
theorem auditChecks_calls (seed : Int) (A : Option Addr) (c : Nat) (es : List S30) (w : World) (hC : Kd.C k30 w A es.length es) (hc : es.length ≤ c) (hn : es.length ≤ 9223372036854775807) (ht : Tab w) :
    Calls Tryd.prog 4 #[.int .u64 seed, .slice A es.length c] w fun e w' => e = .returned (.bool true) ∧ Below w.heap.size w w' := by
  have HC := Aside0.mk hC
  have HT := Aside0.mk ht
  have HL := Aside0.mk hc
  have HN := Aside0.mk hn
  clear hC ht hc hn
  go_enter Tryd.func4, Tryd.ntmps4
  go_wp2_with fail
  refine (lives_calls w HT.out).mono ?_
  rintro e w1 ⟨rfl, hb1⟩
  have HB1 := Aside0.mk hb1
  clear hb1
  go_wp2_with fail
  refine (ciceroneref43_Few.calls (2 + 40 * es.length) A c es (fewB es) w1 (Kd.C_below HC.out HB1.out) HL.out (few_ref _ es HN.out (by omega))).mono ?_
  rintro e w2 ⟨rfl, hb2⟩
  have HB2 := Aside0.mk (HB1.out.trans (hb2.below.mono HB1.out.size))
  clear hb2 HB1
  cases hf : fewB es with
  | false =>
    clear hf
    go_wp2
    go_ret
    exact ⟨rfl, HB2.out⟩
  | true =>
    have hle : es.length ≤ 31 := by simp [fewB] at hf; exact hf.1
    have HLe := Aside0.mk hle
    clear hf hle
    go_wp2_with fail
    refine (handed_calls A c es w2 (Kd.C_below HC.out HB2.out) (by have := HLe.out; omega)).mono ?_
    rintro e w3 ⟨A3, c3, rfl, hc3, hC3, hb3⟩
    have HB3 := Aside0.mk (HB2.out.trans (hb3.mono HB2.out.size))
    have HC3 := Aside0.mk hC3
    clear hb3 HB2 hC3 hc3
    go_wp2_with fail
    refine (check_calls seed A3 c3 es w3 HC3.out (HT.out.below HB3.out)).mono ?_
    rintro e w4 ⟨rfl, hb4⟩
    have HB4 := Aside0.mk (HB3.out.trans (hb4.mono HB3.out.size))
    clear hb4 HB3 HC3
    go_wp2_with fail
    refine (refCheck_calls seed A c es w4 (Kd.C_below HC.out HB4.out)).mono ?_
    rintro e w5 ⟨rfl, hb5⟩
    have HB5 := Aside0.mk (HB4.out.trans (hb5.mono HB4.out.size))
    clear hb5 HB4
    go_wp2
    go_ret
    exact ⟨rfl, HB5.out⟩
end Go.Proofs.YtmbkmfdmpimegaaDoor
