/-
  Frames: what a call leaves as it was. No program is in sight. The clock in memory; the walks of clock's functions.
-/
import Derived.Test.YtmmfoeckggpgdaaGreatDoorWKept
import Derived.Test.YtmmfoeckggpgdaaGreatDoorJ1
import Derived.Test.YtmmfoeckggpgdaaGreatDoorProg
import Derived.Deep.QuietTactic
import Derived.BigQuiet
import Derived.StillTailTactics
namespace Go.Proofs.YtmmfoeckggpgdaaGreatDoor
open Go.RowKit Go.Proofs.YtmmfoeckggpgdaaGreatDoorW.PrintWords

/-- all that lay in w lies in W as it did, but the blocks of S -/
structure Fr (S : Nat → Prop) (w W : World) : Prop where
  os : W.os = w.os
  tape : W.tape = w.tape
  output : W.output = w.output
  size : w.heap.size ≤ W.heap.size
  block : ∀ i, i < w.heap.size → ¬ S i → W.heap[i]? = w.heap[i]?
namespace Fr
variable {w W W2 : World} {S S2 : Nat → Prop}
theorem refl (S : Nat → Prop) (w : World) : Fr S w w := ⟨rfl, rfl, rfl, Nat.le_refl _, fun _ _ _ => rfl⟩
theorem of_below (h : Below w.heap.size w W) (S : Nat → Prop) : Fr S w W := ⟨h.os, h.tape, h.output, h.size, fun i hi _ => h.block i hi⟩
theorem mono (h : Fr S w W) (hs : ∀ k, k < w.heap.size → S k → S2 k) : Fr S2 w W := ⟨h.os, h.tape, h.output, h.size, fun i hi hn => h.block i hi (fun hk => hn (hs i hi hk))⟩
theorem then_ (h : Fr S w W) (k : Fr S2 W W2) (hs : ∀ i, S2 i → S i ∨ w.heap.size ≤ i) : Fr S w W2 :=
  ⟨k.os.trans h.os, k.tape.trans h.tape, k.output.trans h.output, Nat.le_trans h.size k.size,
   fun i hi hn => (k.block i (Nat.lt_of_lt_of_le hi h.size) (fun h2 => (hs i h2).elim hn (fun h3 => by omega))).trans (h.block i hi hn)⟩
theorem below (h : Fr S w W) (k : Below W.heap.size W W2) : Fr S w W2 := h.then_ (of_below k (fun _ => False)) (fun _ hk => hk.elim)
theorem alloc (h : Fr S w W) (o : Obj) : Fr S w (W.alloc o) := h.below (below_alloc (Below.refl _ _) o)
theorem drew (h : Fr S w W) : Fr S w W.drew := h.below (below_drew (Below.refl _ _))
theorem drewN (h : Fr S w W) (n : Nat) : Fr S w (W.drewN n) := h.below (pw_below_drewN (Below.refl _ _) n)
theorem grown {row : Option Nat} (h : Fr S w W) (hg : W.grownBy W2 row) (hr : ∀ k, row = some k → S k ∨ w.heap.size ≤ k) : Fr S w W2 :=
  h.then_ (S2 := fun k => row = some k) ⟨hg.os, hg.tape, hg.output, hg.size, fun i hi hn => hg.block i hi (fun he => hn he.symm)⟩ hr
theorem setCell (h : Fr S w W) {p : Addr} (hp : S p.block ∨ w.heap.size ≤ p.block) (u : Value) : Fr S w (W.setCell p u) := by
  have hb : Below 0 W (W.setCell p u) := (Below.refl 0 W).setCell (Nat.zero_le _) u
  exact h.then_ (S2 := fun k => k = p.block) ⟨hb.os, hb.tape, hb.output, hb.size, fun i _ hn => Below.heap_setCell W p u i hn⟩ (fun k hk => by rw [hk]; exact hp)
theorem toBelow (h : Fr S w W) {B : Nat} (hB : B ≤ w.heap.size) (hs : ∀ k, S k → B ≤ k) : Below B w W :=
  ⟨h.os, h.tape, h.output, h.size, fun i hi => h.block i (by omega) (fun hk => by have := hs i hk; omega)⟩
theorem kept (h : Fr S w W) : Kept w W S := ⟨h.size, h.block⟩
theorem blk (h : Fr S w W) {g : Nat} {o : Obj} (hb : w.heap[g]? = some o) (hne : ¬ S g) : W.heap[g]? = some o := (h.block g (blk_lt hb) hne).trans hb
theorem cell (h : Fr S w W) {a : Addr} {v : Value} (hc : w.cell? a = some v) (hne : ¬ S a.block) : W.cell? a = some v := cell_kept hc h.kept hne
end Fr
theorem new_at (w : World) (o : Obj) {n : Nat} (h : n = w.heap.size) : (w.alloc o).heap[n]? = some o := by rw [h]; exact heap_alloc_new w o
theorem new_1of2 (w : World) (o1 o2 : Obj) : ((w.alloc o1).alloc o2).heap[w.heap.size]? = some o1 := blk_alloc (heap_alloc_new w o1) o2
theorem new_2of2 (w : World) (o1 o2 : Obj) : ((w.alloc o1).alloc o2).heap[w.heap.size + 1]? = some o2 := new_at _ _ (by simp)
theorem five {W : World} {g : Nat} {a b c d e : Value} {t : TypeId} (h : W.heap[g]? = some (.cells #[a, b, c, d, e] t (0, 0))) :
    W.cell? ⟨g, 0, none⟩ = some a ∧ W.cell? ⟨g, 1, none⟩ = some b ∧ W.cell? ⟨g, 2, none⟩ = some c ∧ W.cell? ⟨g, 3, none⟩ = some d ∧ W.cell? ⟨g, 4, none⟩ = some e ∧ g < W.heap.size :=
  ⟨blk_cell h 0, blk_cell h 1, blk_cell h 2, blk_cell h 3, blk_cell h 4, blk_lt h⟩
theorem two {W : World} {g : Nat} {a b : Value} {t : TypeId} (h : W.heap[g]? = some (.cells #[a, b] t (0, 0))) :
    W.cell? ⟨g, 0, none⟩ = some a ∧ W.cell? ⟨g, 1, none⟩ = some b ∧ g < W.heap.size :=
  ⟨blk_cell h 0, blk_cell h 1, blk_lt h⟩
theorem R_fr {α : Type} {d : Kd α} {e base : Nat} {W W2 : World} {ok S : Nat → Prop} {v : Value} {xs : List α} (h : d.R e W base ok v xs) (hf : Fr S W W2) (hs : ∀ k, base ≤ k → k < W.heap.size → ok k → ¬ S k) : d.R e W2 base ok v xs :=
  Kd.R_mono (Kd.R_kept (Kd.R_bound h) hf.kept (fun k hk => hs k hk.2.1 hk.2.2.1 hk.1)) (fun _ hk => hk.1)
/-- five cells are written -/
abbrev set5 (w : World) (b : Nat) (a0 a1 a2 a3 a4 : Value) : World := ((((w.setCell ⟨b, 0, none⟩ a0).setCell ⟨b, 1, none⟩ a1).setCell ⟨b, 2, none⟩ a2).setCell ⟨b, 3, none⟩ a3).setCell ⟨b, 4, none⟩ a4
theorem set5_blk {w : World} {b t : Nat} {z0 z1 z2 z3 z4 : Value} (h : w.heap[b]? = some (.cells #[z0, z1, z2, z3, z4] t (0, 0))) (a0 a1 a2 a3 a4 : Value) : (set5 w b a0 a1 a2 a3 a4).heap[b]? = some (.cells #[a0, a1, a2, a3, a4] t (0, 0)) :=
  blk_set (blk_set (blk_set (blk_set (blk_set h 0 a0) 1 a1) 2 a2) 3 a3) 4 a4
theorem set5_fr (w : World) (b : Nat) (a0 a1 a2 a3 a4 : Value) : Fr (fun k => k = b) w (set5 w b a0 a1 a2 a3 a4) :=
  (((((Fr.refl (fun k => k = b) w).setCell (p := ⟨b, 0, none⟩) (.inl rfl) a0).setCell (p := ⟨b, 1, none⟩) (.inl rfl) a1).setCell (p := ⟨b, 2, none⟩) (.inl rfl) a2).setCell (p := ⟨b, 3, none⟩) (.inl rfl) a3).setCell (p := ⟨b, 4, none⟩) (.inl rfl) a4
/-- no block -/
def nob : Nat → Prop := fun _ => False
/-- one block -/
def one (g : Nat) : Nat → Prop := fun k => k = g
end Go.Proofs.YtmmfoeckggpgdaaGreatDoor
set_option linter.unusedSimpArgs false
set_option linter.unusedVariables false
namespace Go.Proofs.YtmmfoeckggpgdaaGreatDoor
open Go.RowKit Go.Lib Go.Maps Go.Proofs.YtmmfoeckggpgdaaGreatDoorW.PrintWords

def heardV (h : Int × Int) : Value := .agg #[.int .i64 h.1, .int .i64 h.2]
theorem ret_int {k : IntKind} {a b : Int} (h : a = b) : Ending.returned (.int k a) = .returned (.int k b) := by rw [h]
theorem ret_bool {a b : Bool} (h : a = b) : Ending.returned (.bool a) = .returned (.bool b) := by rw [h]
/-- a clock in memory: its cells, its sources -/
structure ClkAt (w : World) (g b n : Nat) (c : Clk) : Prop where
  blk : w.heap[g]? = some (.cells #[.int .i64 c.slack, .int .i64 c.idle, .int .i64 c.now, .int .i64 c.mark, .map (some b)] 137 (0, 0))
  map : TMap heardV Tryz.prog 9 w b n c.src
  ok : ClkOk c
theorem ClkAt.move {w W : World} {g b n : Nat} {c : Clk} (h : ClkAt w g b n c) (hg : W.heap[g]? = w.heap[g]?) (hb : W.heap[b]? = w.heap[b]?) : ClkAt W g b n c := ⟨hg.trans h.blk, h.map.move hb, h.ok⟩
theorem ClkAt.below {w W : World} {g b n : Nat} {c : Clk} (h : ClkAt w g b n c) (hb : Below w.heap.size w W) : ClkAt W g b n c := h.move (hb.block g (blk_lt h.blk)) (hb.block b h.map.lt)
theorem ClkAt.fr {w W : World} {g b n : Nat} {c : Clk} {S : Nat → Prop} (h : ClkAt w g b n c) (hf : Fr S w W) (hg : ¬ S g) (hb : ¬ S b) : ClkAt W g b n c := h.move (hf.block g (blk_lt h.blk) hg) (hf.block b h.map.lt hb)
theorem ClkAt.ne {w : World} {g b n : Nat} {c : Clk} (h : ClkAt w g b n c) : g ≠ b := fun e => by
  obtain ⟨es, clock, hb, _⟩ := h.map.own
  rw [← e, h.blk] at hb
  cases hb
/-- the blocks that a clock writes -/
def clkS (g b : Nat) : Nat → Prop := fun k => k = g ∨ k = b

theorem within_calls (v : Int) (w : World) : Calls Tryz.prog 94 #[.int .i64 v] w fun e w' => e = .returned (.int .i64 (within v)) ∧ w' = w := by
  go_enter Tryz.func94, Tryz.ntmps94
  go_wp2
  all_goals go_ret
  all_goals exact ⟨ret_int (by unfold within; omega), rfl⟩
theorem clkMark_calls (g b n : Nat) (c : Clk) (w : World) (h : ClkAt w g b n c) : Calls Tryz.prog 89 #[.pointer (some ⟨g, 0, none⟩)] w fun e w' => e = .returned (.int .i64 c.mark) ∧ w' = w := by
  obtain ⟨p0, p1, p2, p3, p4, ps⟩ := five h.blk
  go_enter Tryz.func89, Tryz.ntmps89
  go_wp2
  go_ret
  exact ⟨rfl, rfl⟩
theorem clkNew_calls (slack idle : Int) (w : World) : Calls Tryz.prog 74 #[.int .i64 slack, .int .i64 idle] w fun e w' => e = .returned (.pointer (some ⟨w.heap.size + 1, 0, none⟩)) ∧ ClkAt w' (w.heap.size + 1) w.heap.size 0 (newC slack idle) ∧ Below w.heap.size w w' := by
  have hmm := @run_makeMap Tryz.prog
  go_enter Tryz.func74, Tryz.ntmps74
  go_wp2_with fail
  refine (within_calls slack w).mono ?_
  rintro e w' ⟨rfl, rfl⟩
  go_wp2_with fail
  refine (within_calls idle _).mono ?_
  rintro e w' ⟨rfl, rfl⟩
  go_wp2
  go_ret
  refine ⟨rfl, ⟨new_2of2 w' _ _, ?_, newC_ok slack idle⟩, below_alloc (below_alloc (Below.refl _ _) _) _⟩
  exact (TMap.made heardV Tryz.prog 9 _).move ((below_alloc (Below.refl _ (w'.alloc (.map #[] 0))) _).block _ (by simp))
/-- is a source active? -/
theorem active_calls (g b n : Nat) (c : Clk) (x : Int × Int) (w : World) (h : ClkAt w g b n c) (hx : tickB x.2) :
    Calls Tryz.prog 187 #[.pointer (some ⟨g, 0, none⟩), heardV x] w fun e w' => e = .returned (.bool (actC c.idle c.now x)) ∧ Below w.heap.size w w' := by
  obtain ⟨p0, p1, p2, p3, p4, ps⟩ := five h.blk
  obtain ⟨x1, x2⟩ := x
  have hi := h.ok.idle
  have hn := h.ok.now
  unfold tickB at hi hn hx
  unfold heardV
  by_cases h0 : c.idle = 0
  · have hb : (c.idle == 0) = true := by simp [h0]
    have HA : Aside0 (actC c.idle c.now (x1, x2) = true) := ⟨by unfold actC; simp [h0]⟩
    clear h0
    go_enter Tryz.func187, Tryz.ntmps187
    go_wp2_with fail
    go_quiet (fail)
    go_wp2
    go_ret
    exact ⟨ret_bool HA.out.symm, pw_below_drewN (below_alloc (Below.refl _ _) _) _⟩
  · have hb : (c.idle == 0) = false := by simp [h0]
    have HA : Aside0 (actC c.idle c.now (x1, x2) = decide (c.now - x2 ≤ c.idle)) := ⟨by unfold actC; simp [h0]⟩
    clear h0
    go_enter Tryz.func187, Tryz.ntmps187
    go_wp2_with fail
    go_quiet (fail)
    all_goals go_wp2
    all_goals go_ret
    all_goals exact ⟨ret_bool HA.out.symm, pw_below_drewN (below_alloc (Below.refl _ _) _) _⟩
/-! ### what the sources tell -/
def nextL (idle now : Int) (x : Int × Int) (r : Option Int) : Option Int := if actC idle now x = true then (match r with | none => some x.1 | some m => if x.1 < m then some x.1 else some m) else r
theorem least_step {idle now : Int} {l : List (ByteArray × (Int × Int))} {left : Lit → Bool} {r : Option Int} {s : ByteArray} {x : Int × Int} (hrise : Rising l) (hm : (s, x) ∈ l) (hl : left (kLit s) = true)
    (h : Least idle now (l.filter fun p => !left (kLit p.1)) r) : Least idle now (l.filter fun p => !(left (kLit p.1) && !(kLit p.1).sameKey (kLit s))) (nextL idle now x r) := by
  have hin : ∀ p, p ∈ (l.filter fun p => !(left (kLit p.1) && !(kLit p.1).sameKey (kLit s))) ↔ (p ∈ (l.filter fun p => !left (kLit p.1)) ∨ p = (s, x)) := by
    intro p
    rw [List.mem_filter, List.mem_filter]
    constructor
    · rintro ⟨h1, h2⟩
      cases hp : left (kLit p.1) with
      | false => exact .inl ⟨h1, rfl⟩
      | true =>
        rw [hp, sameKey_kLit] at h2
        have e : p.1 = s := by simpa using h2
        have e1 : getL l s = some p.2 := getL_of_mem hrise (by rw [← e]; exact h1)
        have e2 : getL l s = some x := getL_of_mem hrise hm
        rw [e1] at e2
        exact .inr (Prod.ext e (by simpa using e2))
    · rintro (⟨h1, h2⟩ | rfl)
      · refine ⟨h1, ?_⟩
        have h3 : left (kLit p.1) = false := by simpa using h2
        rw [h3]; rfl
      · refine ⟨hm, ?_⟩
        rw [sameKey_kLit]; simp
  unfold nextL
  by_cases ha : actC idle now x = true
  · rw [if_pos ha]
    cases r with
    | none =>
      refine ⟨(fun e => by cases e), fun m e => ?_⟩
      obtain rfl : x.1 = m := by simpa using e
      refine ⟨⟨(s, x), (hin _).2 (.inr rfl), ha, rfl⟩, fun p hp hpa => ?_⟩
      rcases (hin p).1 hp with hp | rfl
      · rw [h.none_ rfl p hp] at hpa; cases hpa
      · exact Int.le_refl _
    | some k =>
      obtain ⟨⟨q, hq, hqa, hqe⟩, hall⟩ := h.some_ k rfl
      by_cases hlt : x.1 < k
      · simp only [if_pos hlt]
        refine ⟨(fun e => by cases e), fun m e => ?_⟩
        obtain rfl : x.1 = m := by simpa using e
        refine ⟨⟨(s, x), (hin _).2 (.inr rfl), ha, rfl⟩, fun p hp hpa => ?_⟩
        rcases (hin p).1 hp with hp | rfl
        · have := hall p hp hpa; omega
        · exact Int.le_refl _
      · simp only [if_neg hlt]
        refine ⟨(fun e => by cases e), fun m e => ?_⟩
        obtain rfl : k = m := by simpa using e
        refine ⟨⟨q, (hin _).2 (.inl hq), hqa, hqe⟩, fun p hp hpa => ?_⟩
        rcases (hin p).1 hp with hp | rfl
        · exact hall p hp hpa
        · simp only; omega
  · rw [if_neg ha]
    refine ⟨fun e p hp => ?_, fun m e => ?_⟩
    · rcases (hin p).1 hp with hp | rfl
      · exact h.none_ e p hp
      · simpa using ha
    · obtain ⟨⟨q, hq, hqa, hqe⟩, hall⟩ := h.some_ m e
      refine ⟨⟨q, (hin _).2 (.inl hq), hqa, hqe⟩, fun p hp hpa => ?_⟩
      rcases (hin p).1 hp with hp | rfl
      · exact hall p hp hpa
      · exact absurd hpa ha
theorem filter_none {α : Type} {l : List (ByteArray × α)} {left : Lit → Bool} (h : ∀ k, left k = false) : (l.filter fun p => !left (kLit p.1)) = l := List.filter_eq_self.2 (fun p _ => by rw [h]; rfl)
theorem filter_start {α : Type} {mk : α → Value} {l : List (ByteArray × α)} : (l.filter fun p => !Maps.has (mapD (l.map (sh mk))) (kLit p.1)) = [] := List.filter_eq_nil_iff.2 (fun p hp => by rw [has_sh mk l p hp]; simp)
theorem results137 : Tryz.f137.results = #[.tmp 2, .tmp 3] := by kernel_rfl
set_option maxHeartbeats 1000000 in
set_option maxRecDepth 100000 in
theorem told_calls (g b n : Nat) (c : Clk) (w : World) (h : ClkAt w g b n c) :
    Calls Tryz.prog 137 #[.pointer (some ⟨g, 0, none⟩)] w fun e w' => e = .returned (.tuple #[.int .i64 ((leastC c.idle c.now c.src).getD 0 - c.slack - 1), .bool (leastC c.idle c.now c.src).isSome]) ∧ Below w.heap.size w w' := by
  obtain ⟨p0, p1, p2, p3, p4, ps⟩ := five h.blk
  have H := Aside0.mk h
  clear h
  go_enter Tryz.func137, Tryz.ntmps137
  go_wp2_with (at_range; refine wpList_range_T rfl _ 135 rfl Tryz.underlying9 Tryz.underlying135 rfl H.out.map ?_)
  intro w1 hr1 hg1 hs1
  have HR1 := Aside0.mk hr1
  have HB1 : Aside0 (Below w.heap.size w w1) := ⟨(Below.refl _ w).grown hg1 (Nat.le_refl _) (fun j hj => by cases hj)⟩
  clear hr1 hg1
  have HS1 := Aside0.mk hs1
  clear hs1
  go_wp2_with fail
  go_loopw [4, 5] (fun s4 s5 wr => ∃ (left : Lit → Bool) (cnt : Nat) (r : Option Int), s4 = .int .i64 (r.getD 0) ∧ s5 = .bool r.isSome ∧ Aside0 (TRange heardV Tryz.prog 9 wr b w.heap.size n c.src left cnt) ∧ Aside0 (Least c.idle c.now (c.src.filter fun p => !left (kLit p.1)) r) ∧ Aside0 (Below w.heap.size w wr)) (fun _ _ wr => wr.rangeLeft b w.heap.size)
  case atStart => exact ⟨_, _, none, rfl, rfl, HR1, ⟨by rw [filter_start]; exact ⟨fun _ p hp => by simp at hp, fun m e => by cases e⟩⟩, HB1⟩
  case round =>
    obtain ⟨left, cnt, r, rfl, rfl, HR, HLe, HB⟩ := hrel
    go_wp2_with (at_next; refine wpList_next_T rfl _ rfl Tryz.underlying9 rfl HR.out ?_ ?_)
    · intro h0 hl0
      have HE : Aside0 (leastC c.idle c.now c.src = r) := ⟨by have h1 := HLe.out; rw [filter_none hl0] at h1; exact (least_leastC _ _ _).unique h1⟩
      have hrb : 0 ≤ r.getD 0 ∧ r.getD 0 ≤ 1099511627776 := by
        cases r with
        | none => simp
        | some m =>
          obtain ⟨⟨p, hp, _, rfl⟩, _⟩ := HLe.out.some_ m rfl
          exact H.out.ok.at_ p (List.mem_filter.1 hp).1
      have hsl := H.out.ok.slack
      have q0 := pw_cell_below HB.out p0
      unfold tickB at hsl
      clear h0 hl0 p0 p1 p2 p3 p4
      go_wp2
      go_ret2
      rw [HE.out]
      exact ⟨rfl, HB.out⟩
    · intro s x1 x2 w2 cnt2 hm hlx hr2 hlt hg2 hs2 hen
      have HLx := Aside0.mk (least_step H.out.map.rise hm hlx HLe.out)
      have HB2 : Aside0 (Below w.heap.size w w2) := ⟨HB.out.grown hg2 HB.out.size (fun j hj => by cases hj; exact Nat.le_refl _)⟩
      have HR2 := Aside0.mk hr2
      have HX := Aside0.mk (And.intro (H.out.ok.at_ _ hm) (H.out.ok.heard _ hm))
      have HLT := Aside0.mk (show w2.rangeLeft b w.heap.size < wr.rangeLeft b w.heap.size by rw [hr2.rng.left_eq, HR.out.rng.left_eq]; exact hlt)
      unfold heardV at hen ⊢
      clear hm hlx hr2 hlt hg2 hs2 HLe HR HB p0 p1 p2 p3 p4
      go_wp2_with fail
      refine (active_calls g b n c (x1, x2) _ ((H.out.below HB2.out).below (below_alloc (Below.refl _ _) _)) HX.out.2).mono ?_
      rintro e w3 ⟨rfl, hb3⟩
      have BX := blk_below (heap_alloc_new w2 (.cells #[.int .i64 x1, .int .i64 x2] 141)) hb3
      obtain ⟨z0, z1, zs⟩ := two BX
      have hb23 : Below w2.heap.size w2 w3 := (below_alloc (Below.refl _ w2) _).trans (hb3.mono (by simp))
      have HR3 := Aside0.mk (HR2.out.kept (grown_of_below hb23 none) (by simp) (by simp))
      have HB3 := Aside0.mk (HB2.out.trans (hb23.mono HB2.out.size))
      have HLT3 := Aside0.mk (show w3.rangeLeft b w.heap.size < wr.rangeLeft b w.heap.size by rw [HR3.out.rng.left_eq, ← HR2.out.rng.left_eq]; exact HLT.out)
      clear hen hb3 hb23 BX HR2 HB2 HLT
      cases ha : actC c.idle c.now (x1, x2) with
      | false =>
        have HN : Aside0 (nextL c.idle c.now (x1, x2) r = r) := ⟨by unfold nextL; rw [if_neg (by rw [ha]; simp)]⟩
        clear ha
        go_wp2
        go_roundw
        case rel => exact ⟨_, cnt2, r, rfl, rfl, HR3, ⟨by have h := HLx.out; rw [HN.out] at h; exact h⟩, HB3⟩
        case measure => exact HLT3.out
      | true =>
        cases r with
        | none =>
          have HN : Aside0 (nextL c.idle c.now (x1, x2) none = some x1) := ⟨by unfold nextL; rw [if_pos ha]⟩
          clear ha
          go_wp2
          go_roundw
          case rel => exact ⟨_, cnt2, some x1, rfl, rfl, HR3, ⟨by have h := HLx.out; rw [HN.out] at h; exact h⟩, HB3⟩
          case measure => exact HLT3.out
        | some m =>
          by_cases hlm : x1 < m
          · have HN : Aside0 (nextL c.idle c.now (x1, x2) (some m) = some x1) := ⟨by unfold nextL; rw [if_pos ha]; simp only; rw [if_pos hlm]⟩
            clear ha
            go_wp2
            go_roundw
            case rel => exact ⟨_, cnt2, some x1, rfl, rfl, HR3, ⟨by have h := HLx.out; rw [HN.out] at h; exact h⟩, HB3⟩
            case measure => exact HLT3.out
          · have HN : Aside0 (nextL c.idle c.now (x1, x2) (some m) = some m) := ⟨by unfold nextL; rw [if_pos ha]; simp only; rw [if_neg hlm]⟩
            clear ha
            go_wp2
            go_roundw
            case rel => exact ⟨_, cnt2, some m, rfl, rfl, HR3, ⟨by have h := HLx.out; rw [HN.out] at h; exact h⟩, HB3⟩
            case measure => exact HLT3.out
theorem ClkAt.withMark {w : World} {g b n : Nat} {c : Clk} (h : ClkAt w g b n c) (m : Int) (hm : -1 ≤ m ∧ m ≤ 1099511627776) : ClkAt (w.setCell ⟨g, 3, none⟩ (.int .i64 m)) g b n { c with mark := m } :=
  ⟨blk_set h.blk 3 (.int .i64 m), h.map.move (Below.heap_setCell w ⟨g, 3, none⟩ _ b (fun e => h.ne e.symm)), ⟨h.ok.slack, h.ok.idle, h.ok.now, hm, h.ok.at_, h.ok.heard⟩⟩
theorem set_fr (w : World) (g j : Nat) (v : Value) : Fr (fun k => k = g) w (w.setCell ⟨g, j, none⟩ v) := (Fr.refl (fun k => k = g) w).setCell (p := ⟨g, j, none⟩) (.inl rfl) v
set_option maxRecDepth 100000 in
theorem rise_calls (g b n : Nat) (c : Clk) (w : World) (h : ClkAt w g b n c) :
    Calls Tryz.prog 95 #[.pointer (some ⟨g, 0, none⟩)] w fun e w' => e = .returned (.tuple #[]) ∧ ClkAt w' g b n (riseC c) ∧ Fr (fun k => k = g) w w' := by
  have H := Aside0.mk h
  clear h
  go_enter Tryz.func95, Tryz.ntmps95
  go_wp2_with fail
  refine (told_calls g b n c w H.out).mono ?_
  rintro e w1 ⟨rfl, hb⟩
  have H1 := Aside0.mk (H.out.below hb)
  have F1 := Aside0.mk (Fr.of_below hb (fun k => k = g))
  obtain ⟨p0, p1, p2, p3, p4, ps⟩ := five H1.out.blk
  clear hb
  cases hl : leastC c.idle c.now c.src with
  | none =>
    have HR : Aside0 (riseC c = c) := ⟨by unfold riseC; rw [hl]⟩
    clear hl
    go_wp2
    go_end0
    rw [HR.out]
    exact ⟨rfl, H1.out, F1.out⟩
  | some m =>
    have HR : Aside0 (riseC c = { c with mark := max c.mark (m - c.slack - 1) }) := ⟨by unfold riseC; rw [hl]⟩
    have hmb : 0 ≤ m ∧ m ≤ 1099511627776 := by
      obtain ⟨⟨p, hp, _, rfl⟩, _⟩ := (least_leastC c.idle c.now c.src).some_ m hl
      exact H.out.ok.at_ p hp
    have hsl := H.out.ok.slack
    have hmk := H.out.ok.mark
    unfold tickB at hsl
    have f3 := blk_frozen H1.out.blk
    clear hl
    by_cases hlt : c.mark < m - c.slack - 1
    · have HM : Aside0 (max c.mark (m - c.slack - 1) = m - c.slack - 1) := ⟨by omega⟩
      have H2 := Aside0.mk (H1.out.withMark (m - c.slack - 1) (by omega))
      go_wp2
      go_end0
      rw [HR.out, HM.out]
      exact ⟨rfl, H2.out, F1.out.setCell (.inl rfl) _⟩
    · have HM : Aside0 (max c.mark (m - c.slack - 1) = c.mark) := ⟨by omega⟩
      have H2 := Aside0.mk (H1.out.withMark c.mark hmk)
      go_wp2
      go_end0
      rw [HR.out, HM.out]
      exact ⟨rfl, H2.out, F1.out.setCell (.inl rfl) _⟩
theorem ClkAt.withNow {w : World} {g b n : Nat} {c : Clk} (h : ClkAt w g b n c) (m : Int) (hm : tickB m) : ClkAt (w.setCell ⟨g, 2, none⟩ (.int .i64 m)) g b n { c with now := m } :=
  ⟨blk_set h.blk 2 (.int .i64 m), h.map.move (Below.heap_setCell w ⟨g, 2, none⟩ _ b (fun e => h.ne e.symm)), ⟨h.ok.slack, h.ok.idle, hm, h.ok.mark, h.ok.at_, h.ok.heard⟩⟩
set_option maxRecDepth 100000 in
theorem tick_calls (g b n : Nat) (c : Clk) (now : Int) (w : World) (h : ClkAt w g b n c) :
    Calls Tryz.prog 50 #[.pointer (some ⟨g, 0, none⟩), .int .i64 now] w fun e w' => e = .returned (.int .i64 (tickC c now).mark) ∧ ClkAt w' g b n (tickC c now) ∧ Fr (fun k => k = g) w w' := by
  have H := Aside0.mk h
  obtain ⟨p0, p1, p2, p3, p4, ps⟩ := five h.blk
  have hn := h.ok.now
  have hw := within_tick now
  have hn' := hn
  have hw' := hw
  unfold tickB at hn hw
  have HTk := Aside0.mk (And.intro hn' hw')
  clear hn' hw'
  have fz := blk_frozen h.blk
  clear h
  have HT : Aside0 (tickC c now = riseC { c with now := max c.now (within now) }) := ⟨rfl⟩
  obtain ⟨wn, hwn⟩ : ∃ wn, wn = within now := ⟨_, rfl⟩
  rw [← hwn] at hw HT
  have HWN := Aside0.mk hwn
  clear hwn
  have HD := Aside0.mk (Fr.refl (fun k => k = g) w).drew
  by_cases hlt : c.now < wn
  · have HM : Aside0 (max c.now wn = wn) := ⟨by omega⟩
    rw [HM.out] at HT
    have H2 := Aside0.mk (ClkAt.withNow (w := w.drew) ⟨H.out.blk, H.out.map.move rfl, H.out.ok⟩ wn hw)
    have F2 := Aside0.mk (HD.out.setCell (p := ⟨g, 2, none⟩) (.inl rfl) (.int .i64 wn))
    go_enter Tryz.func50, Tryz.ntmps50
    go_wp2_with fail
    go_still_tail 10, (by kernel_rfl)
    still_call (by have h := within_calls now w.drew; rw [← HWN.out] at h; exact h)
    repeat still_step
    refine wpStill_nil ?_
    change wpList _ _ _ _ _ w.drew
    go_wp2_with fail
    refine (rise_calls g b n _ _ H2.out).mono ?_
    rintro e w3 ⟨rfl, hC3, hF3⟩
    rw [← HT.out] at hC3
    have HC3 := Aside0.mk hC3
    have F3 := Aside0.mk (F2.out.then_ hF3 (fun k hk => .inl hk))
    obtain ⟨r0, r1, r2, r3, r4, rs⟩ := five hC3.blk
    clear hC3 hF3 p0 p1 p2 p3 p4 fz HT H2 F2 HM
    go_wp2
    go_ret
    exact ⟨rfl, HC3.out, F3.out⟩
  · have HM : Aside0 (max c.now wn = c.now) := ⟨by omega⟩
    rw [HM.out] at HT
    have H2 := Aside0.mk (ClkAt.withNow (w := w.drew) ⟨H.out.blk, H.out.map.move rfl, H.out.ok⟩ c.now hn)
    have F2 := Aside0.mk (HD.out.setCell (p := ⟨g, 2, none⟩) (.inl rfl) (.int .i64 c.now))
    go_enter Tryz.func50, Tryz.ntmps50
    go_wp2_with fail
    go_still_tail 10, (by kernel_rfl)
    still_call (by have h := within_calls now w.drew; rw [← HWN.out] at h; exact h)
    repeat still_step
    refine wpStill_nil ?_
    change wpList _ _ _ _ _ w.drew
    go_wp2_with fail
    refine (rise_calls g b n _ _ H2.out).mono ?_
    rintro e w3 ⟨rfl, hC3, hF3⟩
    rw [← HT.out] at hC3
    have HC3 := Aside0.mk hC3
    have F3 := Aside0.mk (F2.out.then_ hF3 (fun k hk => .inl hk))
    obtain ⟨r0, r1, r2, r3, r4, rs⟩ := five hC3.blk
    clear hC3 hF3 p0 p1 p2 p3 p4 fz HT H2 F2 HM
    go_wp2
    go_ret
    exact ⟨rfl, HC3.out, F3.out⟩
end Go.Proofs.YtmmfoeckggpgdaaGreatDoor
