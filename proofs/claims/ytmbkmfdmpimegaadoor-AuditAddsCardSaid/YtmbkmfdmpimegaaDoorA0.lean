/-
  Frames: what a call leaves as it was. No program is in sight.
-/
import Derived.Test.YtmbkmfdmpimegaaDoorWKept
namespace Go.Proofs.YtmbkmfdmpimegaaDoor
open Go.RowKit Go.Proofs.YtmbkmfdmpimegaaDoorW.PrintWords

/-- all that lay in w lies in W as it did, but the blocks of S -/
structure Fr (S : Nat → Prop) (w W : World) : Prop where
  os : W.os = w.os
  tape : W.tape = w.tape
  output : W.output = w.output
  size : w.heap.size ≤ W.heap.size
  block : ∀ i, i < w.heap.size → ¬ S i → W.heap[i]? = w.heap[i]?
namespace Fr
variable {w W W2 : World} {S S2 : Nat → Prop}
theorem refl (S : Nat → Prop) (w : World) : Fr S w w := ⟨rfl, rfl, rfl, Nat.le_refl _, fun _ _ _ => rfl⟩
theorem of_below (h : Below w.heap.size w W) (S : Nat → Prop) : Fr S w W := ⟨h.os, h.tape, h.output, h.size, fun i hi _ => h.block i hi⟩
theorem mono (h : Fr S w W) (hs : ∀ k, k < w.heap.size → S k → S2 k) : Fr S2 w W := ⟨h.os, h.tape, h.output, h.size, fun i hi hn => h.block i hi (fun hk => hn (hs i hi hk))⟩
theorem then_ (h : Fr S w W) (k : Fr S2 W W2) (hs : ∀ i, S2 i → S i ∨ w.heap.size ≤ i) : Fr S w W2 :=
  ⟨k.os.trans h.os, k.tape.trans h.tape, k.output.trans h.output, Nat.le_trans h.size k.size,
   fun i hi hn => (k.block i (Nat.lt_of_lt_of_le hi h.size) (fun h2 => (hs i h2).elim hn (fun h3 => by omega))).trans (h.block i hi hn)⟩
theorem below (h : Fr S w W) (k : Below W.heap.size W W2) : Fr S w W2 := h.then_ (of_below k (fun _ => False)) (fun _ hk => hk.elim)
theorem alloc (h : Fr S w W) (o : Obj) : Fr S w (W.alloc o) := h.below (below_alloc (Below.refl _ _) o)
theorem drew (h : Fr S w W) : Fr S w W.drew := h.below (below_drew (Below.refl _ _))
theorem drewN (h : Fr S w W) (n : Nat) : Fr S w (W.drewN n) := h.below (pw_below_drewN (Below.refl _ _) n)
theorem grown {row : Option Nat} (h : Fr S w W) (hg : W.grownBy W2 row) (hr : ∀ k, row = some k → S k ∨ w.heap.size ≤ k) : Fr S w W2 :=
  h.then_ (S2 := fun k => row = some k) ⟨hg.os, hg.tape, hg.output, hg.size, fun i hi hn => hg.block i hi (fun he => hn he.symm)⟩ hr
theorem setCell (h : Fr S w W) {p : Addr} (hp : S p.block ∨ w.heap.size ≤ p.block) (u : Value) : Fr S w (W.setCell p u) := by
  have hb : Below 0 W (W.setCell p u) := (Below.refl 0 W).setCell (Nat.zero_le _) u
  exact h.then_ (S2 := fun k => k = p.block) ⟨hb.os, hb.tape, hb.output, hb.size, fun i _ hn => Below.heap_setCell W p u i hn⟩ (fun k hk => by rw [hk]; exact hp)
theorem toBelow (h : Fr S w W) {B : Nat} (hB : B ≤ w.heap.size) (hs : ∀ k, S k → B ≤ k) : Below B w W :=
  ⟨h.os, h.tape, h.output, h.size, fun i hi => h.block i (by omega) (fun hk => by have := hs i hk; omega)⟩
theorem kept (h : Fr S w W) : Kept w W S := ⟨h.size, h.block⟩
theorem blk (h : Fr S w W) {g : Nat} {o : Obj} (hb : w.heap[g]? = some o) (hne : ¬ S g) : W.heap[g]? = some o := (h.block g (blk_lt hb) hne).trans hb
theorem cell (h : Fr S w W) {a : Addr} {v : Value} (hc : w.cell? a = some v) (hne : ¬ S a.block) : W.cell? a = some v := cell_kept hc h.kept hne
end Fr
theorem new_at (w : World) (o : Obj) {n : Nat} (h : n = w.heap.size) : (w.alloc o).heap[n]? = some o := by rw [h]; exact heap_alloc_new w o
theorem new_1of2 (w : World) (o1 o2 : Obj) : ((w.alloc o1).alloc o2).heap[w.heap.size]? = some o1 := blk_alloc (heap_alloc_new w o1) o2
theorem new_2of2 (w : World) (o1 o2 : Obj) : ((w.alloc o1).alloc o2).heap[w.heap.size + 1]? = some o2 := new_at _ _ (by simp)
theorem five {W : World} {g : Nat} {a b c d e : Value} {t : TypeId} (h : W.heap[g]? = some (.cells #[a, b, c, d, e] t (0, 0))) :
    W.cell? ⟨g, 0, none⟩ = some a ∧ W.cell? ⟨g, 1, none⟩ = some b ∧ W.cell? ⟨g, 2, none⟩ = some c ∧ W.cell? ⟨g, 3, none⟩ = some d ∧ W.cell? ⟨g, 4, none⟩ = some e ∧ g < W.heap.size :=
  ⟨blk_cell h 0, blk_cell h 1, blk_cell h 2, blk_cell h 3, blk_cell h 4, blk_lt h⟩
theorem two {W : World} {g : Nat} {a b : Value} {t : TypeId} (h : W.heap[g]? = some (.cells #[a, b] t (0, 0))) :
    W.cell? ⟨g, 0, none⟩ = some a ∧ W.cell? ⟨g, 1, none⟩ = some b ∧ g < W.heap.size :=
  ⟨blk_cell h 0, blk_cell h 1, blk_lt h⟩
theorem R_fr {α : Type} {d : Kd α} {e base : Nat} {W W2 : World} {ok S : Nat → Prop} {v : Value} {xs : List α} (h : d.R e W base ok v xs) (hf : Fr S W W2) (hs : ∀ k, base ≤ k → k < W.heap.size → ok k → ¬ S k) : d.R e W2 base ok v xs :=
  Kd.R_mono (Kd.R_kept (Kd.R_bound h) hf.kept (fun k hk => hs k hk.2.1 hk.2.2.1 hk.1)) (fun _ hk => hk.1)
/-- five cells are written -/
abbrev set5 (w : World) (b : Nat) (a0 a1 a2 a3 a4 : Value) : World := ((((w.setCell ⟨b, 0, none⟩ a0).setCell ⟨b, 1, none⟩ a1).setCell ⟨b, 2, none⟩ a2).setCell ⟨b, 3, none⟩ a3).setCell ⟨b, 4, none⟩ a4
theorem set5_blk {w : World} {b t : Nat} {z0 z1 z2 z3 z4 : Value} (h : w.heap[b]? = some (.cells #[z0, z1, z2, z3, z4] t (0, 0))) (a0 a1 a2 a3 a4 : Value) : (set5 w b a0 a1 a2 a3 a4).heap[b]? = some (.cells #[a0, a1, a2, a3, a4] t (0, 0)) :=
  blk_set (blk_set (blk_set (blk_set (blk_set h 0 a0) 1 a1) 2 a2) 3 a3) 4 a4
theorem set5_fr (w : World) (b : Nat) (a0 a1 a2 a3 a4 : Value) : Fr (fun k => k = b) w (set5 w b a0 a1 a2 a3 a4) :=
  (((((Fr.refl (fun k => k = b) w).setCell (p := ⟨b, 0, none⟩) (.inl rfl) a0).setCell (p := ⟨b, 1, none⟩) (.inl rfl) a1).setCell (p := ⟨b, 2, none⟩) (.inl rfl) a2).setCell (p := ⟨b, 3, none⟩) (.inl rfl) a3).setCell (p := ⟨b, 4, none⟩) (.inl rfl) a4
/-- no block -/
def nob : Nat → Prop := fun _ => False
/-- one block -/
def one (g : Nat) : Nat → Prop := fun k => k = g
end Go.Proofs.YtmbkmfdmpimegaaDoor
