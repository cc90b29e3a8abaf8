/-
  The walks of Chain.Encode and Chain.Entries.
-/
import Derived.Test.YtmbkmfdmpimegaaDoorA6
namespace Go.Proofs.YtmbkmfdmpimegaaDoor
open Go.RowKit Go.Lib Go.Sort Go.Proofs.YtmbkmfdmpimegaaDoorW.PrintWords Go.Proofs.YtmbkmfdmpimegaaDoor.PR

/-- the lines of entries, behind a text -/
def encFrom (acc : ByteArray) : List S30 → ByteArray
  | [] => acc
  | x :: l => encFrom (acc ++ (lineB x ++ ⟨#[10]⟩)) l
def encB (u : Nat) (es : List S30) : ByteArray := encFrom (beginB u ++ ⟨#[10]⟩) es
theorem encFrom_drop (acc : ByteArray) (es : List S30) (k : Nat) (hk : k < es.length) : encFrom acc (es.drop k) = encFrom (acc ++ (lineB es[k] ++ ⟨#[10]⟩)) (es.drop (k + 1)) := by
  rw [List.drop_eq_getElem_cons hk]; rfl
theorem lineB_size (x : S30) (hx : Fine x) : (lineB x).size ≤ 200000 := by
  have hm := mayE_parts hx.1
  have hu := hx.2
  unfold lineB
  have := join_bound [itoaB x.f0, itoaB x.f1, x.f2, itemsB x.f3, utoaB x.f4.toNat] 25000 (by
    intro s hs
    simp only [List.mem_cons, List.not_mem_nil, or_false] at hs
    rcases hs with rfl | rfl | rfl | rfl | rfl
    · have := itoaB_size21 x.f0 (by omega) (by omega); omega
    · have := itoaB_size21 x.f1 (by omega) (by omega); omega
    · have := nameB_size hm.2.2.2.2.1; omega
    · exact itemsB_size _ hm.2.2.2.2.2.1 (fun s hs => nameB_size (hm.2.2.2.2.2.2 s hs))
    · have := utoaB_size x.f4.toNat (by omega); omega) 32
  have e : (joinB [itoaB x.f0, itoaB x.f1, x.f2, itemsB x.f3, utoaB x.f4.toNat] ⟨#[32]⟩).size = (Lib.join ([itoaB x.f0, itoaB x.f1, x.f2, itemsB x.f3, utoaB x.f4.toNat].map (·.data.toList)) [32]).length := by simp [joinB, ByteArray.size]
  rw [e]
  have e3 : [itoaB x.f0, itoaB x.f1, x.f2, itemsB x.f3, utoaB x.f4.toNat].length = 5 := rfl
  rw [e3] at this
  omega

set_option maxRecDepth 100000 in
set_option maxHeartbeats 2000000 in
theorem encode_calls {base : Nat} {ok : Nat → Prop} (g : Nat) (v : Value) (u : Nat) (es : List S30) (w : World) (h : Chain base ok w g v u es) (hu : u < 18446744073709551616) (hf : ∀ x ∈ es, Fine x) (hl : es.length ≤ 1000000) (ht : Tab w) :
    Calls Tryd.prog 16 #[.pointer (some ⟨g, 0, none⟩)] w fun e w' => ∃ A c, e = .returned (.slice A (encB u es).size c) ∧ (encB u es).size ≤ c ∧ ReadsInt w' .u8 A (encB u es).size (bytesOf (encB u es)) ∧ Below w.heap.size w w' := by
  obtain ⟨A, c, rfl, hlc, hC⟩ := Kd.R_reads h.row
  obtain ⟨p0, p1, ps⟩ := two h.blk
  have hbs := utoaB_size u hu
  have hb6 : (beginB u).size = 6 + (utoaB u).size := by unfold beginB; rw [ByteArray.size_append]; rfl
  have HB6 := Aside0.mk hb6
  have HC := Aside0.mk hC
  have HT := Aside0.mk ht
  have HF := Aside0.mk hf
  have H := Aside0.mk h
  clear h hC ht hf hb6
  go_enter Tryd.func16, Tryd.ntmps16
  go_wp2_with fail
  refine (begin_calls u hu _ HT.out).mono ?_
  rintro e w1 ⟨rfl, hb⟩
  obtain ⟨p0, p1, ps⟩ := two (H.out.below hb).blk
  have HB := Aside0.mk hb
  have hsz : (beginB u).size ≤ 26 := by have := HB6.out; omega
  obtain ⟨t0, ht0⟩ : ∃ t0, t0 = beginB u := ⟨_, rfl⟩
  rw [← ht0] at hsz ⊢
  have HT0 := Aside0.mk ht0
  clear hb ht0
  go_wp2_with fail
  go_loopw [3, 17] (fun s i wr => ∃ (k : Nat) (acc : ByteArray), i = .int .i64 k ∧ s = .string acc ∧ k ≤ es.length ∧ Aside0 (encFrom acc (es.drop k) = encB u es) ∧ Aside0 (acc.size ≤ 100 + 200001 * k) ∧ Aside0 (Below w.heap.size w wr)) (fun _ i _ => es.length - (intOf i).toNat)
  case atStart => exact ⟨0, t0 ++ ⟨#[10]⟩, rfl, rfl, Nat.zero_le _, ⟨by rw [List.drop_zero, HT0.out]; rfl⟩, ⟨by rw [ByteArray.size_append]; show t0.size + 1 ≤ _; omega⟩, HB⟩
  case round =>
    obtain ⟨k, acc, rfl, rfl, hk, HE, HS, HBr⟩ := hrel
    by_cases hlt : k < es.length
    · cases A with
      | none => obtain ⟨ad, e, _⟩ := HC.out.2.2 (by omega); cases e
      | some ad =>
        obtain ⟨A3, c3, h0, h1, h2, h3, h4, hl3, hC3⟩ := ent_get (Kd.C_below HC.out HBr.out) k hlt
        have HX := Aside0.mk (HF.out es[k] (List.getElem_mem hlt))
        have hls := lineB_size es[k] HX.out
        have HD := Aside0.mk (encFrom_drop acc es k hlt)
        obtain ⟨x, hx⟩ : ∃ x, x = es[k] := ⟨_, rfl⟩
        rw [← hx] at h0 h1 h2 h3 h4 hl3 hC3 HX hls HD
        clear hx
        have HC3 := Aside0.mk hC3
        have hS2 := HS.out
        clear hC3
        go_wp2_with fail
        refine (line_calls x A3 c3 _ (Kd.C_alloc HC3.out _) hl3 HX.out (HT.out.below (below_alloc HBr.out _))).mono ?_
        rintro e w2 ⟨rfl, hb2⟩
        have HB2 := Aside0.mk ((below_alloc HBr.out _).trans (hb2.mono (Nat.le_trans HBr.out.size (by simp))))
        clear hb2 h0 h1 h2 h3 h4
        obtain ⟨t1, ht1⟩ : ∃ t1, t1 = lineB x := ⟨_, rfl⟩
        rw [← ht1] at hls HD ⊢
        clear ht1
        go_wp2
        go_roundw
        case rel => exact ⟨k + 1, _, by go_num, rfl, by omega, ⟨by rw [← HD.out]; exact HE.out⟩, ⟨by rw [ByteArray.size_append, ByteArray.size_append]; show acc.size + (t1.size + 1) ≤ _; omega⟩, HB2⟩
        case measure => simp [intOf]; omega
    · have hend := Aside0.mk (show acc = encB u es from by rw [← HE.out, List.drop_of_length_le (by omega)]; rfl)
      have hS2 := HS.out
      have hcv := fun W => print_bytes (P := Tryd.prog) 9 39 5 Tryd.underlying9 Tryd.underlying39 Tryd.underlying5 acc W
      go_wp2
      go_ret
      rw [← hend.out]
      exact ⟨_, _, rfl, grownCap_ge _ _ _ _, bytes_reads _ 5 acc (by omega), bytes_below HBr.out HBr.out.size 5 acc⟩

set_option maxRecDepth 100000 in
set_option maxHeartbeats 2000000 in
theorem entries_calls {base : Nat} {ok : Nat → Prop} (g : Nat) (v : Value) (seed : Int) (es : List S30) (w : World) (h : Chain base ok w g v seed es) (hl : es.length ≤ 1000000) (hi : ∀ x ∈ es, x.f3.length ≤ 1000000) :
    Calls Tryd.prog 15 #[.pointer (some ⟨g, 0, none⟩)] w fun e w' => ∃ v', e = .returned v' ∧ k30.R 33 w' w.heap.size any v' es ∧ Below w.heap.size w w' := by
  obtain ⟨A, c, rfl, hlc, hC⟩ := Kd.R_reads h.row
  obtain ⟨p0, p1, ps⟩ := two h.blk
  have HC := Aside0.mk hC
  have HI := Aside0.mk hi
  clear h hC hi
  go_enter Tryd.func15, Tryd.ntmps15
  go_wp2
  go_loopw [3, 11] (fun s i wr => ∃ k : Nat, i = .int .i64 k ∧ k ≤ es.length ∧ Aside0 (k30.R 33 wr w.heap.size any s (es.take k)) ∧ Aside0 (Below w.heap.size w wr)) (fun _ i _ => es.length - (intOf i).toNat)
  case atStart => exact ⟨0, rfl, Nat.zero_le _, ⟨Kd.R_nil _ _ _ _ _⟩, ⟨Below.refl _ _⟩⟩
  case round =>
    obtain ⟨k, rfl, hk, HR, HBr⟩ := hrel
    by_cases hlt : k < es.length
    · cases A with
      | none => obtain ⟨ad, e, _⟩ := HC.out.2.2 (by omega); cases e
      | some ad =>
        obtain ⟨A3, c3, h0, h1, h2, h3, h4, hl3, hC3⟩ := ent_get (Kd.C_below HC.out HBr.out) k hlt
        have HX := Aside0.mk (HI.out es[k] (List.getElem_mem hlt))
        have HD := Aside0.mk (List.take_succ_eq_append_getElem hlt)
        obtain ⟨x, hx⟩ : ∃ x, x = es[k] := ⟨_, rfl⟩
        rw [← hx] at h0 h1 h2 h3 h4 hl3 hC3 HX HD
        clear hx
        have HC3 := Aside0.mk hC3
        clear hC3
        go_wp2_with fail
        refine (entClone_calls x A3 c3 _ (Kd.C_alloc HC3.out _) HX.out).mono ?_
        rintro e w2 ⟨⟨v3, rfl, hR3⟩, hb2⟩
        obtain ⟨A4, c4, rfl⟩ := Kd.R_slice hR3
        have HR3 := Aside0.mk hR3
        have HR2 := Aside0.mk (Kd.R_below (Kd.R_alloc HR.out (.cells #[.int .i64 x.f0, .int .i64 x.f1, .string x.f2, .slice A3 x.f3.length c3, .int .u64 x.f4] 33)) hb2)
        have HB2 := Aside0.mk ((below_alloc HBr.out (.cells #[.int .i64 x.f0, .int .i64 x.f1, .string x.f2, .slice A3 x.f3.length c3, .int .u64 x.f4] 33)).trans (hb2.mono (Nat.le_trans HBr.out.size (by simp))))
        have HLt : Aside0 (∀ j, u3.ownBlock = some j → j < wr.heap.size) := by
          obtain ⟨_, inner, ho, _⟩ := HR.out
          exact ⟨fun j hj => own_lt ho j hj⟩
        clear hb2 h0 h1 h2 h3 h4 hR3
        unfold entV
        have hM : Aside0 (k30.M w2 w.heap.size (fun j => wr.heap.size + 1 ≤ j) x [.int .i64 x.f0, .int .i64 x.f1, .string x.f2, .slice A4 x.f3.length c4, .int .u64 x.f4]) :=
          ⟨k30_mkM _ _ _ _ (Kd.R_lower (Kd.R_mono (Kd.R_bound HR3.out) (fun _ hk => by simpa using hk.2.1)) (by have := HBr.out.size; simp; omega))⟩
        have hV : Aside0 (∀ j, wr.heap.size + 1 ≤ j → any j ∧ some j ≠ u3.ownBlock) := ⟨fun j hj => ⟨trivial, fun e => by have := HLt.out j e.symm; omega⟩⟩
        have hL : Aside0 (((es.take k).length + 1) * 64 ≤ 140737488355328) := ⟨by rw [List.length_take]; omega⟩
        go_wp2_with (at_builtin; refine Kd.R_append k30 (w0 := w2) (W := w2) w.heap.size rfl _ _ 37 33 _ 64 rfl Tryd.underlying37 info33 rfl (by decide) (by decide) u3 (es.take k) x [.int .i64 x.f0, .int .i64 x.f1, .string x.f2, .slice A4 x.f3.length c4, .int .u64 x.f4] any (fun j => wr.heap.size + 1 ≤ j) rfl rfl hM.out hV.out (fun _ _ => trivial) HR2.out (Below.refl _ _) HB2.out.size hL.out ?_)
        intro v5 w5 hR5 _hb5 hg5 hat5
        have HR5 := Aside0.mk hR5
        have HB5 := Aside0.mk (HB2.out.grown hg5 HB2.out.size (by obtain ⟨_, inner, ho, _⟩ := HR.out; exact fun j hj => own_base ho j hj))
        clear hR5 _hb5 hg5 hat5
        go_wp2
        go_roundw
        case rel => exact ⟨k + 1, by go_num, by omega, ⟨by rw [HD.out]; exact HR5.out⟩, HB5⟩
        case measure => simp [intOf]; omega
    · go_wp2
      go_ret
      exact ⟨_, rfl, by rw [List.take_of_length_le (by omega)] at HR; exact HR.out, HBr.out⟩
end Go.Proofs.YtmbkmfdmpimegaaDoor
