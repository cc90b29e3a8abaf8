/-
  slices.Sorted(maps.Keys(m)) at this dump: made by the kit's lay-iter and lay-plain.
-/
import Derived.Shelf.SlIter.Nil
import Derived.Shelf.SortM.Plain
import Derived.Shelf.SortM.SortNone
import Derived.Ground.GgzProg
import Derived.Ground.SlgmProg
import Derived.Test.YtmmfoeckggpgdaaGreatDoorProg
namespace Go.Proofs
open Go.Shelf
def Tryz.keys48_ren : Go.Shelf.Ren := ⟨fun | 7 => 48 | 10 => 92 | n => n, fun | 23 => 89 | 26 => 9 | 3 => 4 | 28 => 94 | 0 => 0 | 27 => 93 | 33 => 131 | 4 => 4 | n => n, fun | n => n⟩
theorem Tryz.keys48 : Go.Proofs.SlLaysZ.n7 Tryz.prog Tryz.keys48_ren := {
  mixed := by kernel_rfl
  f7 := ⟨Tryz.f48.name, by decide, Tryz.func48.trans (congrArg some (by kernel_rfl))⟩
  f10 := ⟨Tryz.f92.name, by decide, Tryz.func92.trans (congrArg some (by kernel_rfl))⟩
  t0 := Tryz.underlying0
  a0 := Tryz.isAgg0
  z0 := Tryz.sizeOf0
  v0 := Tryz.zeroValue0
  t4 := Tryz.underlying4
  a4 := Tryz.isAgg4
  z4 := Tryz.sizeOf4
  v4 := Tryz.zeroValue4
  t23 := Tryz.underlying89
  a23 := Tryz.isAgg89
  z23 := Tryz.sizeOf89
  v23 := Tryz.zeroValue89
  t26 := Tryz.underlying9
  a26 := Tryz.isAgg9
  z26 := Tryz.sizeOf9
  v26 := Tryz.zeroValue9
  t27 := Tryz.underlying93
  a27 := Tryz.isAgg93
  z27 := Tryz.sizeOf93
  v27 := Tryz.zeroValue93
  t28 := Tryz.underlying94
  a28 := Tryz.isAgg94
  z28 := Tryz.sizeOf94
  v28 := Tryz.zeroValue94
  t33 := Tryz.underlying131
  a33 := Tryz.isAgg131
  z33 := Tryz.sizeOf131
  v33 := Tryz.zeroValue131 }
def Tryz.sorted47_ren : Go.Shelf.Ren := ⟨fun | 6 => 47 | 8 => 90 | 9 => 91 | 11 => 134 | 13 => 136 | 12 => 135 | 23 => 185 | 24 => 186 | 14 => 176 | 15 => 177 | 16 => 178 | 17 => 179 | 18 => 180 | 19 => 181 | 20 => 182 | 21 => 183 | 22 => 184 | 25 => 212 | 26 => 213 | 27 => 214 | 28 => 215 | 29 => 216 | 30 => 194 | 31 => 233 | n => n, fun | 26 => 9 | 28 => 94 | 24 => 35 | 0 => 0 | 3 => 3 | 37 => 154 | 48 => 218 | 50 => 220 | 4 => 4 | 40 => 211 | 39 => 210 | 45 => 143 | 5 => 5 | 9 => 9 | 51 => 238 | 55 => 242 | 57 => 256 | 58 => 120 | 33 => 131 | n => n, fun | n => n⟩
theorem Tryz.sorted47 : Go.Proofs.SlLaysZ.n6 Tryz.prog Tryz.sorted47_ren := {
  mixed := by kernel_rfl
  f6 := ⟨Tryz.f47.name, by decide, Tryz.func47.trans (congrArg some (by kernel_rfl))⟩
  f8 := ⟨Tryz.f90.name, by decide, Tryz.func90.trans (congrArg some (by kernel_rfl))⟩
  f11 := ⟨Tryz.f134.name, by decide, Tryz.func134.trans (congrArg some (by kernel_rfl))⟩
  t0 := Tryz.underlying0
  a0 := Tryz.isAgg0
  z0 := Tryz.sizeOf0
  v0 := Tryz.zeroValue0
  t24 := Tryz.underlying35
  a24 := Tryz.isAgg35
  z24 := Tryz.sizeOf35
  v24 := Tryz.zeroValue35
  t26 := Tryz.underlying9
  a26 := Tryz.isAgg9
  z26 := Tryz.sizeOf9
  v26 := Tryz.zeroValue9
  t28 := Tryz.underlying94
  a28 := Tryz.isAgg94
  z28 := Tryz.sizeOf94
  v28 := Tryz.zeroValue94
  i26 := by kernel_rfl }
def Tryz.sort91_ren : Go.Shelf.Ren := ⟨fun | 6 => 91 | 8 => 136 | 9 => 135 | 19 => 185 | 20 => 186 | 21 => 176 | 22 => 177 | 23 => 178 | 24 => 179 | 25 => 180 | 26 => 181 | 27 => 182 | 28 => 183 | 29 => 184 | 36 => 212 | 31 => 213 | 32 => 214 | 37 => 215 | 38 => 216 | 39 => 194 | 41 => 233 | n => n, fun | 27 => 35 | 29 => 9 | 3 => 3 | 32 => 154 | 26 => 35 | 0 => 0 | 44 => 218 | 46 => 220 | 4 => 4 | 36 => 211 | 35 => 210 | 41 => 143 | 5 => 5 | 9 => 9 | 53 => 238 | 57 => 242 | 63 => 256 | 64 => 120 | n => n, fun | n => n⟩
theorem Tryz.sort91 : Go.Proofs.SlLaysM.n6 Tryz.prog Tryz.sort91_ren := {
  mixed := by kernel_rfl
  f6 := ⟨Tryz.f91.name, by decide, Tryz.func91.trans (congrArg some (by kernel_rfl))⟩
  f8 := Tryz.func136.trans (congrArg some (by kernel_rfl))
  f9 := ⟨Tryz.f135.name, by decide, Tryz.func135.trans (congrArg some (by kernel_rfl))⟩
  f19 := Tryz.func185.trans (congrArg some (by kernel_rfl))
  f20 := Tryz.func186.trans (congrArg some (by kernel_rfl))
  f21 := ⟨Tryz.f176.name, by decide, Tryz.func176.trans (congrArg some (by kernel_rfl))⟩
  f22 := ⟨Tryz.f177.name, by decide, Tryz.func177.trans (congrArg some (by kernel_rfl))⟩
  f23 := ⟨Tryz.f178.name, by decide, Tryz.func178.trans (congrArg some (by kernel_rfl))⟩
  f24 := ⟨Tryz.f179.name, by decide, Tryz.func179.trans (congrArg some (by kernel_rfl))⟩
  f25 := ⟨Tryz.f180.name, by decide, Tryz.func180.trans (congrArg some (by kernel_rfl))⟩
  f26 := ⟨Tryz.f181.name, by decide, Tryz.func181.trans (congrArg some (by kernel_rfl))⟩
  f27 := ⟨Tryz.f182.name, by decide, Tryz.func182.trans (congrArg some (by kernel_rfl))⟩
  f28 := ⟨Tryz.f183.name, by decide, Tryz.func183.trans (congrArg some (by kernel_rfl))⟩
  f29 := ⟨Tryz.f184.name, by decide, Tryz.func184.trans (congrArg some (by kernel_rfl))⟩
  f31 := Tryz.func213.trans (congrArg some (by kernel_rfl))
  f32 := Tryz.func214.trans (congrArg some (by kernel_rfl))
  f36 := ⟨Tryz.f212.name, by decide, Tryz.func212.trans (congrArg some (by kernel_rfl))⟩
  f37 := ⟨Tryz.f215.name, by decide, Tryz.func215.trans (congrArg some (by kernel_rfl))⟩
  f38 := ⟨Tryz.f216.name, by decide, Tryz.func216.trans (congrArg some (by kernel_rfl))⟩
  f39 := ⟨Tryz.f194.name, by decide, Tryz.func194.trans (congrArg some (by kernel_rfl))⟩
  f41 := ⟨Tryz.f233.name, by decide, Tryz.func233.trans (congrArg some (by kernel_rfl))⟩
  t0 := Tryz.underlying0
  a0 := Tryz.isAgg0
  z0 := Tryz.sizeOf0
  v0 := Tryz.zeroValue0
  t3 := Tryz.underlying3
  a3 := Tryz.isAgg3
  z3 := Tryz.sizeOf3
  v3 := Tryz.zeroValue3
  t4 := Tryz.underlying4
  a4 := Tryz.isAgg4
  z4 := Tryz.sizeOf4
  v4 := Tryz.zeroValue4
  t5 := Tryz.underlying5
  a5 := Tryz.isAgg5
  z5 := Tryz.sizeOf5
  v5 := Tryz.zeroValue5
  t9 := Tryz.underlying9
  a9 := Tryz.isAgg9
  z9 := Tryz.sizeOf9
  v9 := Tryz.zeroValue9
  t26 := Tryz.underlying35
  a26 := Tryz.isAgg35
  z26 := Tryz.sizeOf35
  v26 := Tryz.zeroValue35
  t27 := Tryz.underlying35
  a27 := Tryz.isAgg35
  z27 := Tryz.sizeOf35
  v27 := Tryz.zeroValue35
  t29 := Tryz.underlying9
  a29 := Tryz.isAgg9
  z29 := Tryz.sizeOf9
  v29 := Tryz.zeroValue9
  t32 := Tryz.underlying154
  a32 := Tryz.isAgg154
  z32 := Tryz.sizeOf154
  v32 := Tryz.zeroValue154
  t35 := Tryz.underlying210
  a35 := Tryz.isAgg210
  z35 := Tryz.sizeOf210
  v35 := Tryz.zeroValue210
  t36 := Tryz.underlying211
  a36 := Tryz.isAgg211
  z36 := Tryz.sizeOf211
  v36 := Tryz.zeroValue211
  t41 := Tryz.underlying143
  a41 := Tryz.isAgg143
  z41 := Tryz.sizeOf143
  v41 := Tryz.zeroValue143
  t44 := Tryz.underlying218
  a44 := Tryz.isAgg218
  z44 := Tryz.sizeOf218
  v44 := Tryz.zeroValue218
  t46 := Tryz.underlying220
  a46 := Tryz.isAgg220
  z46 := Tryz.sizeOf220
  v46 := Tryz.zeroValue220
  t53 := Tryz.underlying238
  a53 := Tryz.isAgg238
  z53 := Tryz.sizeOf238
  v53 := Tryz.zeroValue238
  t57 := Tryz.underlying242
  a57 := Tryz.isAgg242
  z57 := Tryz.sizeOf242
  v57 := Tryz.zeroValue242
  t63 := Tryz.underlying256
  a63 := Tryz.isAgg256
  z63 := Tryz.sizeOf256
  v63 := Tryz.zeroValue256
  t64 := Tryz.underlying120
  a64 := Tryz.isAgg120
  z64 := Tryz.sizeOf120
  v64 := Tryz.zeroValue120 }
def Tryz.keys115_ren : Go.Shelf.Ren := ⟨fun | 7 => 115 | 10 => 163 | n => n, fun | 23 => 106 | 26 => 9 | 3 => 109 | 28 => 94 | 0 => 0 | 27 => 93 | 33 => 131 | 4 => 4 | n => n, fun | n => n⟩
theorem Tryz.keys115 : Go.Proofs.SlLaysZ.n7 Tryz.prog Tryz.keys115_ren := {
  mixed := by kernel_rfl
  f7 := ⟨Tryz.f115.name, by decide, Tryz.func115.trans (congrArg some (by kernel_rfl))⟩
  f10 := ⟨Tryz.f163.name, by decide, Tryz.func163.trans (congrArg some (by kernel_rfl))⟩
  t0 := Tryz.underlying0
  a0 := Tryz.isAgg0
  z0 := Tryz.sizeOf0
  v0 := Tryz.zeroValue0
  t4 := Tryz.underlying4
  a4 := Tryz.isAgg4
  z4 := Tryz.sizeOf4
  v4 := Tryz.zeroValue4
  t23 := Tryz.underlying106
  a23 := Tryz.isAgg106
  z23 := Tryz.sizeOf106
  v23 := Tryz.zeroValue106
  t26 := Tryz.underlying9
  a26 := Tryz.isAgg9
  z26 := Tryz.sizeOf9
  v26 := Tryz.zeroValue9
  t27 := Tryz.underlying93
  a27 := Tryz.isAgg93
  z27 := Tryz.sizeOf93
  v27 := Tryz.zeroValue93
  t28 := Tryz.underlying94
  a28 := Tryz.isAgg94
  z28 := Tryz.sizeOf94
  v28 := Tryz.zeroValue94
  t33 := Tryz.underlying131
  a33 := Tryz.isAgg131
  z33 := Tryz.sizeOf131
  v33 := Tryz.zeroValue131 }
def Tryz.keys165_ren : Go.Shelf.Ren := ⟨fun | 7 => 165 | 10 => 201 | n => n, fun | 23 => 135 | 26 => 9 | 3 => 141 | 28 => 94 | 0 => 0 | 27 => 93 | 33 => 131 | 4 => 4 | n => n, fun | n => n⟩
theorem Tryz.keys165 : Go.Proofs.SlLaysZ.n7 Tryz.prog Tryz.keys165_ren := {
  mixed := by kernel_rfl
  f7 := ⟨Tryz.f165.name, by decide, Tryz.func165.trans (congrArg some (by kernel_rfl))⟩
  f10 := ⟨Tryz.f201.name, by decide, Tryz.func201.trans (congrArg some (by kernel_rfl))⟩
  t0 := Tryz.underlying0
  a0 := Tryz.isAgg0
  z0 := Tryz.sizeOf0
  v0 := Tryz.zeroValue0
  t4 := Tryz.underlying4
  a4 := Tryz.isAgg4
  z4 := Tryz.sizeOf4
  v4 := Tryz.zeroValue4
  t23 := Tryz.underlying135
  a23 := Tryz.isAgg135
  z23 := Tryz.sizeOf135
  v23 := Tryz.zeroValue135
  t26 := Tryz.underlying9
  a26 := Tryz.isAgg9
  z26 := Tryz.sizeOf9
  v26 := Tryz.zeroValue9
  t27 := Tryz.underlying93
  a27 := Tryz.isAgg93
  z27 := Tryz.sizeOf93
  v27 := Tryz.zeroValue93
  t28 := Tryz.underlying94
  a28 := Tryz.isAgg94
  z28 := Tryz.sizeOf94
  v28 := Tryz.zeroValue94
  t33 := Tryz.underlying131
  a33 := Tryz.isAgg131
  z33 := Tryz.sizeOf131
  v33 := Tryz.zeroValue131 }
section
open Go.RowKit Go.Maps Go.Sort Go.Shelf
theorem Tryz.sorts47 (m : Nat) : AnyZ.SortsIn Tryz.prog Tryz.sorted47_ren Fence.wide m :=
  ⟨fun blk off cap ss W hH hblk hsz => callsIn_wide.2 (AnyM.slices_Sort_string Tryz.sort91 blk off cap ss W hH hblk hsz),
   fun p cap W => callsIn_wide.2 (AnyM.slices_Sort_string_none Tryz.sort91 p cap W)⟩
theorem Tryz.maps_Keys_48 (mb : Option Nat) (W : World) : CallsIn Fence.wide 5 Tryz.prog 48 #[.map mb] W fun e w' => e = .returned (.func (.func 92) #[] #[.pointer (some ⟨W.heap.size, 0, none⟩)]) ∧ w' = W.alloc (.cells #[.map mb] 89) :=
  AnyZ.keys_in Tryz.keys48 Fence.wide 5 trivial rfl mb W
set_option maxHeartbeats 1000000 in
theorem Tryz.slices_Sorted_keys_47_48 {H : Type} (b nn : Nat) (D0 : DataW H) (R : Value → Option (DataW H × List MemPlace)) (w : World) (hown : w.ownsMap Tryz.prog 9 R b nn D0) (hmax : Maps.size D0 ≤ maxLen) (hbytes : Maps.size D0 * 16 ≤ 140737488355328) :
    CallsIn Fence.wide 5 Tryz.prog 47 #[.func (.func 92) #[] #[.pointer (some ⟨w.heap.size, 0, none⟩)]] (w.alloc (.cells #[.map (some b)] 89)) fun e w' => ∃ (v : Value) (ss : List (List UInt8)), e = .returned v ∧ ss.Perm (strKeys D0) ∧
      w'.ownsRow (w.alloc (.cells #[.map (some b)] 89)).heap.size 9 1 v ss.length ((ss.mergeSort (fun x y => decide (x ≤ y))).map encStr) ∧ (v = .slice none 0 0 ↔ ss = []) ∧ Below (w.alloc (.cells #[.map (some b)] 89)).heap.size (w.alloc (.cells #[.map (some b)] 89)) w' := by
  have hbl := hown.lt
  have hseq : SeqGives Fence.wide 2 Tryz.prog 92 #[.pointer (some ⟨w.heap.size, 0, none⟩)] encStr (fun ss => ss.Perm (strKeys D0)) (Maps.size D0) (w.alloc (.cells #[.map (some b)] 89)) :=
    AnyZ.keys_gives (ρ := Tryz.keys48_ren) { Tryz.keys48 with } Fence.wide _ trivial rfl (by omega) w.heap.size b nn D0 _ (by simp) (by simp) (by
      obtain ⟨es, clock, hb, Ft, hs, hD⟩ := hown
      exact ⟨es, clock, (Below.heap_alloc _ _ b hbl).trans hb, Ft, hs, hD⟩)
  exact AnyZ.sorted_in Tryz.sorted47 Fence.wide 5 trivial trivial trivial trivial rfl (by omega) (Tryz.sorts47 _) (enters_of Tryz.func91 (by kernel_rfl) rfl) 92 #[.pointer (some ⟨w.heap.size, 0, none⟩)] trivial (enters_of Tryz.func92 (by kernel_rfl) rfl) _ _ hmax hbytes _ hseq
set_option maxHeartbeats 1000000 in
theorem Tryz.slices_Sorted_keys_nil_47_48 (w : World) :
    CallsIn Fence.wide 5 Tryz.prog 47 #[.func (.func 92) #[] #[.pointer (some ⟨w.heap.size, 0, none⟩)]] (w.alloc (.cells #[.map none] 89)) fun e w' => ∃ (v : Value) (ss : List (List UInt8)), e = .returned v ∧ ss = [] ∧
      w'.ownsRow (w.alloc (.cells #[.map none] 89)).heap.size 9 1 v ss.length ((ss.mergeSort (fun x y => decide (x ≤ y))).map encStr) ∧ (v = .slice none 0 0 ↔ ss = []) ∧ Below (w.alloc (.cells #[.map none] 89)).heap.size (w.alloc (.cells #[.map none] 89)) w' := by
  have hseq : SeqGives Fence.wide 2 Tryz.prog 92 #[.pointer (some ⟨w.heap.size, 0, none⟩)] encStr (fun ss : List (List UInt8) => ss = []) 0 (w.alloc (.cells #[.map none] 89)) :=
    AnyZ.keys_gives_nil (ρ := Tryz.keys48_ren) { Tryz.keys48 with } Fence.wide _ trivial rfl w.heap.size _ (by simp) (by simp)
  exact AnyZ.sorted_in Tryz.sorted47 Fence.wide 5 trivial trivial trivial trivial rfl (by omega) (Tryz.sorts47 _) (enters_of Tryz.func91 (by kernel_rfl) rfl) 92 #[.pointer (some ⟨w.heap.size, 0, none⟩)] trivial (enters_of Tryz.func92 (by kernel_rfl) rfl) _ 0 (Nat.zero_le _) (by omega) _ hseq
theorem Tryz.maps_Keys_115 (mb : Option Nat) (W : World) : CallsIn Fence.wide 5 Tryz.prog 115 #[.map mb] W fun e w' => e = .returned (.func (.func 163) #[] #[.pointer (some ⟨W.heap.size, 0, none⟩)]) ∧ w' = W.alloc (.cells #[.map mb] 106) :=
  AnyZ.keys_in Tryz.keys115 Fence.wide 5 trivial rfl mb W
set_option maxHeartbeats 1000000 in
theorem Tryz.slices_Sorted_keys_47_115 {H : Type} (b nn : Nat) (D0 : DataW H) (R : Value → Option (DataW H × List MemPlace)) (w : World) (hown : w.ownsMap Tryz.prog 9 R b nn D0) (hmax : Maps.size D0 ≤ maxLen) (hbytes : Maps.size D0 * 16 ≤ 140737488355328) :
    CallsIn Fence.wide 5 Tryz.prog 47 #[.func (.func 163) #[] #[.pointer (some ⟨w.heap.size, 0, none⟩)]] (w.alloc (.cells #[.map (some b)] 106)) fun e w' => ∃ (v : Value) (ss : List (List UInt8)), e = .returned v ∧ ss.Perm (strKeys D0) ∧
      w'.ownsRow (w.alloc (.cells #[.map (some b)] 106)).heap.size 9 1 v ss.length ((ss.mergeSort (fun x y => decide (x ≤ y))).map encStr) ∧ (v = .slice none 0 0 ↔ ss = []) ∧ Below (w.alloc (.cells #[.map (some b)] 106)).heap.size (w.alloc (.cells #[.map (some b)] 106)) w' := by
  have hbl := hown.lt
  have hseq : SeqGives Fence.wide 2 Tryz.prog 163 #[.pointer (some ⟨w.heap.size, 0, none⟩)] encStr (fun ss => ss.Perm (strKeys D0)) (Maps.size D0) (w.alloc (.cells #[.map (some b)] 106)) :=
    AnyZ.keys_gives (ρ := Tryz.keys115_ren) { Tryz.keys115 with } Fence.wide _ trivial rfl (by omega) w.heap.size b nn D0 _ (by simp) (by simp) (by
      obtain ⟨es, clock, hb, Ft, hs, hD⟩ := hown
      exact ⟨es, clock, (Below.heap_alloc _ _ b hbl).trans hb, Ft, hs, hD⟩)
  exact AnyZ.sorted_in Tryz.sorted47 Fence.wide 5 trivial trivial trivial trivial rfl (by omega) (Tryz.sorts47 _) (enters_of Tryz.func91 (by kernel_rfl) rfl) 163 #[.pointer (some ⟨w.heap.size, 0, none⟩)] trivial (enters_of Tryz.func163 (by kernel_rfl) rfl) _ _ hmax hbytes _ hseq
set_option maxHeartbeats 1000000 in
theorem Tryz.slices_Sorted_keys_nil_47_115 (w : World) :
    CallsIn Fence.wide 5 Tryz.prog 47 #[.func (.func 163) #[] #[.pointer (some ⟨w.heap.size, 0, none⟩)]] (w.alloc (.cells #[.map none] 106)) fun e w' => ∃ (v : Value) (ss : List (List UInt8)), e = .returned v ∧ ss = [] ∧
      w'.ownsRow (w.alloc (.cells #[.map none] 106)).heap.size 9 1 v ss.length ((ss.mergeSort (fun x y => decide (x ≤ y))).map encStr) ∧ (v = .slice none 0 0 ↔ ss = []) ∧ Below (w.alloc (.cells #[.map none] 106)).heap.size (w.alloc (.cells #[.map none] 106)) w' := by
  have hseq : SeqGives Fence.wide 2 Tryz.prog 163 #[.pointer (some ⟨w.heap.size, 0, none⟩)] encStr (fun ss : List (List UInt8) => ss = []) 0 (w.alloc (.cells #[.map none] 106)) :=
    AnyZ.keys_gives_nil (ρ := Tryz.keys115_ren) { Tryz.keys115 with } Fence.wide _ trivial rfl w.heap.size _ (by simp) (by simp)
  exact AnyZ.sorted_in Tryz.sorted47 Fence.wide 5 trivial trivial trivial trivial rfl (by omega) (Tryz.sorts47 _) (enters_of Tryz.func91 (by kernel_rfl) rfl) 163 #[.pointer (some ⟨w.heap.size, 0, none⟩)] trivial (enters_of Tryz.func163 (by kernel_rfl) rfl) _ 0 (Nat.zero_le _) (by omega) _ hseq
theorem Tryz.maps_Keys_165 (mb : Option Nat) (W : World) : CallsIn Fence.wide 5 Tryz.prog 165 #[.map mb] W fun e w' => e = .returned (.func (.func 201) #[] #[.pointer (some ⟨W.heap.size, 0, none⟩)]) ∧ w' = W.alloc (.cells #[.map mb] 135) :=
  AnyZ.keys_in Tryz.keys165 Fence.wide 5 trivial rfl mb W
set_option maxHeartbeats 1000000 in
theorem Tryz.slices_Sorted_keys_47_165 {H : Type} (b nn : Nat) (D0 : DataW H) (R : Value → Option (DataW H × List MemPlace)) (w : World) (hown : w.ownsMap Tryz.prog 9 R b nn D0) (hmax : Maps.size D0 ≤ maxLen) (hbytes : Maps.size D0 * 16 ≤ 140737488355328) :
    CallsIn Fence.wide 5 Tryz.prog 47 #[.func (.func 201) #[] #[.pointer (some ⟨w.heap.size, 0, none⟩)]] (w.alloc (.cells #[.map (some b)] 135)) fun e w' => ∃ (v : Value) (ss : List (List UInt8)), e = .returned v ∧ ss.Perm (strKeys D0) ∧
      w'.ownsRow (w.alloc (.cells #[.map (some b)] 135)).heap.size 9 1 v ss.length ((ss.mergeSort (fun x y => decide (x ≤ y))).map encStr) ∧ (v = .slice none 0 0 ↔ ss = []) ∧ Below (w.alloc (.cells #[.map (some b)] 135)).heap.size (w.alloc (.cells #[.map (some b)] 135)) w' := by
  have hbl := hown.lt
  have hseq : SeqGives Fence.wide 2 Tryz.prog 201 #[.pointer (some ⟨w.heap.size, 0, none⟩)] encStr (fun ss => ss.Perm (strKeys D0)) (Maps.size D0) (w.alloc (.cells #[.map (some b)] 135)) :=
    AnyZ.keys_gives (ρ := Tryz.keys165_ren) { Tryz.keys165 with } Fence.wide _ trivial rfl (by omega) w.heap.size b nn D0 _ (by simp) (by simp) (by
      obtain ⟨es, clock, hb, Ft, hs, hD⟩ := hown
      exact ⟨es, clock, (Below.heap_alloc _ _ b hbl).trans hb, Ft, hs, hD⟩)
  exact AnyZ.sorted_in Tryz.sorted47 Fence.wide 5 trivial trivial trivial trivial rfl (by omega) (Tryz.sorts47 _) (enters_of Tryz.func91 (by kernel_rfl) rfl) 201 #[.pointer (some ⟨w.heap.size, 0, none⟩)] trivial (enters_of Tryz.func201 (by kernel_rfl) rfl) _ _ hmax hbytes _ hseq
set_option maxHeartbeats 1000000 in
theorem Tryz.slices_Sorted_keys_nil_47_165 (w : World) :
    CallsIn Fence.wide 5 Tryz.prog 47 #[.func (.func 201) #[] #[.pointer (some ⟨w.heap.size, 0, none⟩)]] (w.alloc (.cells #[.map none] 135)) fun e w' => ∃ (v : Value) (ss : List (List UInt8)), e = .returned v ∧ ss = [] ∧
      w'.ownsRow (w.alloc (.cells #[.map none] 135)).heap.size 9 1 v ss.length ((ss.mergeSort (fun x y => decide (x ≤ y))).map encStr) ∧ (v = .slice none 0 0 ↔ ss = []) ∧ Below (w.alloc (.cells #[.map none] 135)).heap.size (w.alloc (.cells #[.map none] 135)) w' := by
  have hseq : SeqGives Fence.wide 2 Tryz.prog 201 #[.pointer (some ⟨w.heap.size, 0, none⟩)] encStr (fun ss : List (List UInt8) => ss = []) 0 (w.alloc (.cells #[.map none] 135)) :=
    AnyZ.keys_gives_nil (ρ := Tryz.keys165_ren) { Tryz.keys165 with } Fence.wide _ trivial rfl w.heap.size _ (by simp) (by simp)
  exact AnyZ.sorted_in Tryz.sorted47 Fence.wide 5 trivial trivial trivial trivial rfl (by omega) (Tryz.sorts47 _) (enters_of Tryz.func91 (by kernel_rfl) rfl) 201 #[.pointer (some ⟨w.heap.size, 0, none⟩)] trivial (enters_of Tryz.func201 (by kernel_rfl) rfl) _ 0 (Nat.zero_le _) (by omega) _ hseq
end
end Go.Proofs
