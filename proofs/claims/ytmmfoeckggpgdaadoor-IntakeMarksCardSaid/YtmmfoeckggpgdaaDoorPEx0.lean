-- laid by print.py of the kit (own words), several laws in one
import Derived.Test.YtmmfoeckggpgdaaDoorProg
import Derived.Below
import Derived.Deep.Draws
import Derived.Deep.AppendLies
import Derived.Maps.AppendAt
import Derived.OwnWalk
import Derived.Laws.BytesArg
import Derived.Laws.MakeOwn
import Derived.Laws.OwnMore
import Derived.Deep.OwnRows
import Derived.Tactics
import Derived.Lib.ConvBytes
import Derived.Laws.Slices
import Derived.WalkKit
import Derived.KernelRfl
import Derived.RowKit3
import Derived.Deep.LoopGhost
import Derived.Deep.QuietTactic
import Derived.BigQuiet
import Derived.WideLaws
import Derived.Deep.DeepCutAuto
import Derived.Deep.CutBlock
import Derived.Deep.RegionHeld3
import Derived.Laws.Rows
import Derived.Lib.AppendStr
import Derived.ArgAppend
import Derived.Laws.IdiomCopy
import Derived.OrdersHeld
import Derived.Laws.BitsLemmas
import Derived.RowKit
import Derived.Test.YtmmfoeckggpgdaaDoorWWords
import Derived.Test.YtmmfoeckggpgdaaDoorWLast
import Derived.Test.YtmmfoeckggpgdaaDoorWTab
import Derived.Test.YtmmfoeckggpgdaaDoorWFour
import Derived.Test.YtmmfoeckggpgdaaDoorWQPut
import Derived.Test.YtmmfoeckggpgdaaDoorWApart
import Derived.Test.YtmmfoeckggpgdaaDoorWArr
import Derived.Test.YtmmfoeckggpgdaaDoorWZeros
import Derived.Test.YtmmfoeckggpgdaaDoorWFoot
import Derived.Test.YtmmfoeckggpgdaaDoorWKept
import Derived.Test.YtmmfoeckggpgdaaDoorWShare
import Derived.Test.YtmmfoeckggpgdaaDoorWN
import Derived.Test.YtmmfoeckggpgdaaDoorWFootNe
import Derived.Test.YtmmfoeckggpgdaaDoorWAt
import Derived.Test.YtmmfoeckggpgdaaDoorWEqStruct
import Derived.Test.YtmmfoeckggpgdaaDoorWRepsOne
import Derived.Test.YtmmfoeckggpgdaaDoorWInv
import Derived.Test.YtmmfoeckggpgdaaDoorWInvWords
import Derived.Test.YtmmfoeckggpgdaaDoorWGuard
import Derived.Test.YtmmfoeckggpgdaaDoorWNEv
import Derived.Test.YtmmfoeckggpgdaaDoorWMore
namespace Go.Proofs.YtmmfoeckggpgdaaDoor.PE
open Go.RowKit Go.Proofs.YtmmfoeckggpgdaaDoorW.PrintWords Go.Proofs.YtmmfoeckggpgdaaDoorW.PrintLast Go.Proofs.YtmmfoeckggpgdaaDoorW.PrintMore
attribute [local go_sem] max2_int min2_int max_two min_two max_three min_three max_four min_four   -- for this text's walks alone
set_option linter.unusedVariables false
set_option linter.unusedSimpArgs false



def errW : Option Int → Value
  | none => .nilIface
  | some c => .iface 0 (.int .i64 c)
theorem errW_none : errW none = .nilIface := rfl
theorem errW_some (c : Int) : errW (some c) = .iface 0 (.int .i64 c) := rfl

-- the values' own types
/-! #### struct type 30 -/
structure S30 where
  f0 : ByteArray
  f1 : Int
  f2 : Int
  f3 : Int
  f4 : ByteArray
  f5 : ByteArray
  f6 : Int
  f7 : ByteArray
def z30 : S30 := ⟨(⟨#[]⟩ : ByteArray), (0 : Int), (0 : Int), (0 : Int), (⟨#[]⟩ : ByteArray), (⟨#[]⟩ : ByteArray), (0 : Int), (⟨#[]⟩ : ByteArray)⟩
def k30 : Kd S30 := Kd.iso (Kd.pair Kd.string (Kd.pair (Kd.int .i64) (Kd.pair (Kd.int .i64) (Kd.pair (Kd.int .i64) (Kd.pair Kd.string (Kd.pair Kd.string (Kd.pair (Kd.int .i64) Kd.string))))))) (fun x : S30 => (x.f0, x.f1, x.f2, x.f3, x.f4, x.f5, x.f6, x.f7))
theorem k30_open {w : World} {x : S30} {cs : List Value} (h : k30.K w x cs) : cs = [.string x.f0, .int .i64 x.f1, .int .i64 x.f2, .int .i64 x.f3, .string x.f4, .string x.f5, .int .i64 x.f6, .string x.f7] := by
  obtain ⟨_, _, rfl, rfl, ⟨_, _, rfl, rfl, ⟨_, _, rfl, rfl, ⟨_, _, rfl, rfl, ⟨_, _, rfl, rfl, ⟨_, _, rfl, rfl, ⟨_, _, rfl, rfl, rfl⟩⟩⟩⟩⟩⟩⟩ := h
  exact rfl
theorem k30_openM {w : World} {base : Nat} {ok : Nat → Prop} {x : S30} {cs : List Value} (h : k30.M w base ok x cs) : cs = [.string x.f0, .int .i64 x.f1, .int .i64 x.f2, .int .i64 x.f3, .string x.f4, .string x.f5, .int .i64 x.f6, .string x.f7] := by
  obtain ⟨_, _, rfl, rfl, ⟨_, _, rfl, rfl, ⟨_, _, rfl, rfl, ⟨_, _, rfl, rfl, ⟨_, _, rfl, rfl, ⟨_, _, rfl, rfl, ⟨_, _, rfl, rfl, rfl⟩⟩⟩⟩⟩⟩⟩ := h
  exact rfl
theorem k30_mk (w : World) (x : S30)  : k30.K w x [.string x.f0, .int .i64 x.f1, .int .i64 x.f2, .int .i64 x.f3, .string x.f4, .string x.f5, .int .i64 x.f6, .string x.f7] := ⟨[.string x.f0], [.int .i64 x.f1, .int .i64 x.f2, .int .i64 x.f3, .string x.f4, .string x.f5, .int .i64 x.f6, .string x.f7], rfl, rfl, ⟨[.int .i64 x.f1], [.int .i64 x.f2, .int .i64 x.f3, .string x.f4, .string x.f5, .int .i64 x.f6, .string x.f7], rfl, rfl, ⟨[.int .i64 x.f2], [.int .i64 x.f3, .string x.f4, .string x.f5, .int .i64 x.f6, .string x.f7], rfl, rfl, ⟨[.int .i64 x.f3], [.string x.f4, .string x.f5, .int .i64 x.f6, .string x.f7], rfl, rfl, ⟨[.string x.f4], [.string x.f5, .int .i64 x.f6, .string x.f7], rfl, rfl, ⟨[.string x.f5], [.int .i64 x.f6, .string x.f7], rfl, rfl, ⟨[.int .i64 x.f6], [.string x.f7], rfl, rfl, rfl⟩⟩⟩⟩⟩⟩⟩
theorem k30_mkM (w : World) (base : Nat) (ok : Nat → Prop) (x : S30)  : k30.M w base ok x [.string x.f0, .int .i64 x.f1, .int .i64 x.f2, .int .i64 x.f3, .string x.f4, .string x.f5, .int .i64 x.f6, .string x.f7] := ⟨[.string x.f0], [.int .i64 x.f1, .int .i64 x.f2, .int .i64 x.f3, .string x.f4, .string x.f5, .int .i64 x.f6, .string x.f7], rfl, rfl, ⟨[.int .i64 x.f1], [.int .i64 x.f2, .int .i64 x.f3, .string x.f4, .string x.f5, .int .i64 x.f6, .string x.f7], rfl, rfl, ⟨[.int .i64 x.f2], [.int .i64 x.f3, .string x.f4, .string x.f5, .int .i64 x.f6, .string x.f7], rfl, rfl, ⟨[.int .i64 x.f3], [.string x.f4, .string x.f5, .int .i64 x.f6, .string x.f7], rfl, rfl, ⟨[.string x.f4], [.string x.f5, .int .i64 x.f6, .string x.f7], rfl, rfl, ⟨[.string x.f5], [.int .i64 x.f6, .string x.f7], rfl, rfl, ⟨[.int .i64 x.f6], [.string x.f7], rfl, rfl, rfl⟩⟩⟩⟩⟩⟩⟩
def rd_T30 (xs : List S30) (i : Int) : S30 := xs.getD i.toNat z30
theorem at_T30 {w : World} {A : Option Addr} {n : Nat} {xs : List S30} (h : Kd.C k30 w A n xs) (i : Int) (h0 : 0 ≤ i) (h1 : i < n) : ∃ ad , A = some ad ∧ w.cell? (ad.add (i.toNat * 8)) = some (.string (rd_T30 xs i).f0) ∧ w.cell? ⟨(ad.add (i.toNat * 8)).block, (ad.add (i.toNat * 8)).off + 1, none⟩ = some (.int .i64 (rd_T30 xs i).f1) ∧ w.cell? ⟨(ad.add (i.toNat * 8)).block, (ad.add (i.toNat * 8)).off + 2, none⟩ = some (.int .i64 (rd_T30 xs i).f2) ∧ w.cell? ⟨(ad.add (i.toNat * 8)).block, (ad.add (i.toNat * 8)).off + 3, none⟩ = some (.int .i64 (rd_T30 xs i).f3) ∧ w.cell? ⟨(ad.add (i.toNat * 8)).block, (ad.add (i.toNat * 8)).off + 4, none⟩ = some (.string (rd_T30 xs i).f4) ∧ w.cell? ⟨(ad.add (i.toNat * 8)).block, (ad.add (i.toNat * 8)).off + 5, none⟩ = some (.string (rd_T30 xs i).f5) ∧ w.cell? ⟨(ad.add (i.toNat * 8)).block, (ad.add (i.toNat * 8)).off + 6, none⟩ = some (.int .i64 (rd_T30 xs i).f6) ∧ w.cell? ⟨(ad.add (i.toNat * 8)).block, (ad.add (i.toNat * 8)).off + 7, none⟩ = some (.string (rd_T30 xs i).f7) := by
  obtain ⟨ad, c, e, _, hK, hc0⟩ := Kd.C_get h z30 i h0 h1
  have hc : ∀ j u, c[j]? = some u → w.cell? (ad.add (i.toNat * 8 + j)) = some u := hc0
  obtain rfl := k30_open hK
  exact ⟨ad, e, hc 0 _ rfl, by rw [← add_field _ _ 1 (by omega)]; exact hc 1 _ rfl, by rw [← add_field _ _ 2 (by omega)]; exact hc 2 _ rfl, by rw [← add_field _ _ 3 (by omega)]; exact hc 3 _ rfl, by rw [← add_field _ _ 4 (by omega)]; exact hc 4 _ rfl, by rw [← add_field _ _ 5 (by omega)]; exact hc 5 _ rfl, by rw [← add_field _ _ 6 (by omega)]; exact hc 6 _ rfl, by rw [← add_field _ _ 7 (by omega)]; exact hc 7 _ rfl⟩

/-! #### struct type 32 -/
structure S32 where
  f0 : Int
  f1 : S30
  f2 : Int
  f3 : ByteArray
def z32 : S32 := ⟨(0 : Int), z30, (0 : Int), (⟨#[]⟩ : ByteArray)⟩
def k32 : Kd S32 := Kd.iso (Kd.pair (Kd.int .u8) (Kd.pair k30 (Kd.pair (Kd.int .i64) Kd.string))) (fun x : S32 => (x.f0, x.f1, x.f2, x.f3))
theorem k32_open {w : World} {x : S32} {cs : List Value} (h : k32.K w x cs) : cs = [.int .u8 x.f0, .string x.f1.f0, .int .i64 x.f1.f1, .int .i64 x.f1.f2, .int .i64 x.f1.f3, .string x.f1.f4, .string x.f1.f5, .int .i64 x.f1.f6, .string x.f1.f7, .int .i64 x.f2, .string x.f3] := by
  obtain ⟨_, _, rfl, rfl, ⟨_, _, rfl, s1, ⟨_, _, rfl, rfl, rfl⟩⟩⟩ := h
  obtain rfl := k30_open s1
  exact rfl
theorem k32_openM {w : World} {base : Nat} {ok : Nat → Prop} {x : S32} {cs : List Value} (h : k32.M w base ok x cs) : cs = [.int .u8 x.f0, .string x.f1.f0, .int .i64 x.f1.f1, .int .i64 x.f1.f2, .int .i64 x.f1.f3, .string x.f1.f4, .string x.f1.f5, .int .i64 x.f1.f6, .string x.f1.f7, .int .i64 x.f2, .string x.f3] := by
  obtain ⟨_, _, rfl, rfl, ⟨_, _, rfl, s1, ⟨_, _, rfl, rfl, rfl⟩⟩⟩ := h
  obtain rfl := k30_openM s1
  exact rfl
theorem k32_mk (w : World) (x : S32)  : k32.K w x [.int .u8 x.f0, .string x.f1.f0, .int .i64 x.f1.f1, .int .i64 x.f1.f2, .int .i64 x.f1.f3, .string x.f1.f4, .string x.f1.f5, .int .i64 x.f1.f6, .string x.f1.f7, .int .i64 x.f2, .string x.f3] := ⟨[.int .u8 x.f0], [.string x.f1.f0, .int .i64 x.f1.f1, .int .i64 x.f1.f2, .int .i64 x.f1.f3, .string x.f1.f4, .string x.f1.f5, .int .i64 x.f1.f6, .string x.f1.f7, .int .i64 x.f2, .string x.f3], rfl, rfl, ⟨[.string x.f1.f0, .int .i64 x.f1.f1, .int .i64 x.f1.f2, .int .i64 x.f1.f3, .string x.f1.f4, .string x.f1.f5, .int .i64 x.f1.f6, .string x.f1.f7], [.int .i64 x.f2, .string x.f3], rfl, (k30_mk w x.f1 ), ⟨[.int .i64 x.f2], [.string x.f3], rfl, rfl, rfl⟩⟩⟩
theorem k32_mkM (w : World) (base : Nat) (ok : Nat → Prop) (x : S32)  : k32.M w base ok x [.int .u8 x.f0, .string x.f1.f0, .int .i64 x.f1.f1, .int .i64 x.f1.f2, .int .i64 x.f1.f3, .string x.f1.f4, .string x.f1.f5, .int .i64 x.f1.f6, .string x.f1.f7, .int .i64 x.f2, .string x.f3] := ⟨[.int .u8 x.f0], [.string x.f1.f0, .int .i64 x.f1.f1, .int .i64 x.f1.f2, .int .i64 x.f1.f3, .string x.f1.f4, .string x.f1.f5, .int .i64 x.f1.f6, .string x.f1.f7, .int .i64 x.f2, .string x.f3], rfl, rfl, ⟨[.string x.f1.f0, .int .i64 x.f1.f1, .int .i64 x.f1.f2, .int .i64 x.f1.f3, .string x.f1.f4, .string x.f1.f5, .int .i64 x.f1.f6, .string x.f1.f7], [.int .i64 x.f2, .string x.f3], rfl, (k30_mkM w base ok x.f1 ), ⟨[.int .i64 x.f2], [.string x.f3], rfl, rfl, rfl⟩⟩⟩
def rd_T32 (xs : List S32) (i : Int) : S32 := xs.getD i.toNat z32
theorem at_T32 {w : World} {A : Option Addr} {n : Nat} {xs : List S32} (h : Kd.C k32 w A n xs) (i : Int) (h0 : 0 ≤ i) (h1 : i < n) : ∃ ad , A = some ad ∧ w.cell? (ad.add (i.toNat * 11)) = some (.int .u8 (rd_T32 xs i).f0) ∧ w.cell? ⟨(ad.add (i.toNat * 11)).block, (ad.add (i.toNat * 11)).off + 1, none⟩ = some (.string (rd_T32 xs i).f1.f0) ∧ w.cell? ⟨(ad.add (i.toNat * 11)).block, (ad.add (i.toNat * 11)).off + 2, none⟩ = some (.int .i64 (rd_T32 xs i).f1.f1) ∧ w.cell? ⟨(ad.add (i.toNat * 11)).block, (ad.add (i.toNat * 11)).off + 3, none⟩ = some (.int .i64 (rd_T32 xs i).f1.f2) ∧ w.cell? ⟨(ad.add (i.toNat * 11)).block, (ad.add (i.toNat * 11)).off + 4, none⟩ = some (.int .i64 (rd_T32 xs i).f1.f3) ∧ w.cell? ⟨(ad.add (i.toNat * 11)).block, (ad.add (i.toNat * 11)).off + 5, none⟩ = some (.string (rd_T32 xs i).f1.f4) ∧ w.cell? ⟨(ad.add (i.toNat * 11)).block, (ad.add (i.toNat * 11)).off + 6, none⟩ = some (.string (rd_T32 xs i).f1.f5) ∧ w.cell? ⟨(ad.add (i.toNat * 11)).block, (ad.add (i.toNat * 11)).off + 7, none⟩ = some (.int .i64 (rd_T32 xs i).f1.f6) ∧ w.cell? ⟨(ad.add (i.toNat * 11)).block, (ad.add (i.toNat * 11)).off + 8, none⟩ = some (.string (rd_T32 xs i).f1.f7) ∧ w.cell? ⟨(ad.add (i.toNat * 11)).block, (ad.add (i.toNat * 11)).off + 9, none⟩ = some (.int .i64 (rd_T32 xs i).f2) ∧ w.cell? ⟨(ad.add (i.toNat * 11)).block, (ad.add (i.toNat * 11)).off + 10, none⟩ = some (.string (rd_T32 xs i).f3) := by
  obtain ⟨ad, c, e, _, hK, hc0⟩ := Kd.C_get h z32 i h0 h1
  have hc : ∀ j u, c[j]? = some u → w.cell? (ad.add (i.toNat * 11 + j)) = some u := hc0
  obtain rfl := k32_open hK
  exact ⟨ad, e, hc 0 _ rfl, by rw [← add_field _ _ 1 (by omega)]; exact hc 1 _ rfl, by rw [← add_field _ _ 2 (by omega)]; exact hc 2 _ rfl, by rw [← add_field _ _ 3 (by omega)]; exact hc 3 _ rfl, by rw [← add_field _ _ 4 (by omega)]; exact hc 4 _ rfl, by rw [← add_field _ _ 5 (by omega)]; exact hc 5 _ rfl, by rw [← add_field _ _ 6 (by omega)]; exact hc 6 _ rfl, by rw [← add_field _ _ 7 (by omega)]; exact hc 7 _ rfl, by rw [← add_field _ _ 8 (by omega)]; exact hc 8 _ rfl, by rw [← add_field _ _ 9 (by omega)]; exact hc 9 _ rfl, by rw [← add_field _ _ 10 (by omega)]; exact hc 10 _ rfl⟩

end Go.Proofs.YtmmfoeckggpgdaaDoor.PE
