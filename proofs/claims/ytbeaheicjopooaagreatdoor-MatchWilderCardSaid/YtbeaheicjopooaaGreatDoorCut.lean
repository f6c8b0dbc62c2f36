/- Where a text has the first of some signs, and what the reader of an address cuts off there; the signs are below 128. -/
import Derived.Test.YtbeaheicjopooaaGreatDoorProg
import Derived.Test.YtbeaheicjopooaaGreatDoorEnv
import Derived.Test.YtbeaheicjopooaaGreatDoorPure
import Derived.Lib.OthersKept
import Derived.WalkSmall
namespace Go.Proofs.YtbeaheicjopooaaGreatDoor
open Go.RowKit Go.Sort
attribute [local go_sem] get_mk mk_append mk_extract0 mk_extract_end mk_extract_cons empty_mk cell_grow frozen_grow size_grow

theorem get_list (l : List UInt8) (k : Nat) (h : k < l.length) : (ByteArray.mk l.toArray).get! k = l[k] := by
  show l.toArray[k]! = _
  simp [h]
theorem cont_high (l : List UInt8) (k : Nat) (h : (decide (k < (ByteArray.mk l.toArray).size) && ((ByteArray.mk l.toArray).get! k).toNat / 64 == 2) = true) : ∃ h : k < l.length, 128 ≤ (l[k]).toNat := by
  rw [Bool.and_eq_true, decide_eq_true_eq, beq_iff_eq] at h
  have hk : k < l.length := h.1
  refine ⟨hk, ?_⟩
  have h2 := h.2
  rw [get_list l k hk] at h2
  omega
/-- A sign of more than one byte, or a broken one, has no byte below 128. -/
theorem decode_span (l : List UInt8) (pos : Nat) (h : pos < l.length) (ha : 128 ≤ (l[pos]).toNat) :
    pos + (Utf8.decode ⟨l.toArray⟩ pos).2 ≤ l.length ∧ ∀ i (hi : i < l.length), pos ≤ i → i < pos + (Utf8.decode ⟨l.toArray⟩ pos).2 → 128 ≤ (l[i]).toNat := by
  have hn : ¬ (l[pos]).toNat < 128 := by omega
  have g0 : (ByteArray.mk l.toArray).get! (pos + 0) = l[pos] := get_list l pos h
  have one : pos + 1 ≤ l.length ∧ ∀ i (hi : i < l.length), pos ≤ i → i < pos + 1 → 128 ≤ (l[i]).toNat :=
    ⟨h, fun i hi h1 h2 => by obtain rfl : i = pos := by omega
                             exact ha⟩
  unfold Utf8.decode
  simp only [g0, if_neg hn]
  split
  · rename_i c2
    rw [Bool.and_eq_true] at c2
    obtain ⟨k1, b1⟩ := cont_high l _ c2.2
    split
    · refine ⟨by show pos + 2 ≤ _; omega, fun i hi h1 h2 => ?_⟩
      have h2 : i < pos + 2 := h2
      by_cases e : i = pos
      · subst e; exact ha
      · obtain rfl : i = pos + 1 := by omega
        exact b1
    · exact one
  · split
    · rename_i c3
      rw [Bool.and_eq_true, Bool.and_eq_true] at c3
      obtain ⟨k1, b1⟩ := cont_high l _ c3.1.2
      obtain ⟨k2, b2⟩ := cont_high l _ c3.2
      split
      · refine ⟨by show pos + 3 ≤ _; omega, fun i hi h1 h2 => ?_⟩
        have h2 : i < pos + 3 := h2
        by_cases e : i = pos
        · subst e; exact ha
        · by_cases e : i = pos + 1
          · subst e; exact b1
          · obtain rfl : i = pos + 2 := by omega
            exact b2
      · exact one
    · split
      · rename_i c4
        rw [Bool.and_eq_true, Bool.and_eq_true, Bool.and_eq_true] at c4
        obtain ⟨k1, b1⟩ := cont_high l _ c4.1.1.2
        obtain ⟨k2, b2⟩ := cont_high l _ c4.1.2
        obtain ⟨k3, b3⟩ := cont_high l _ c4.2
        split
        · refine ⟨by show pos + 4 ≤ _; omega, fun i hi h1 h2 => ?_⟩
          have h2 : i < pos + 4 := h2
          by_cases e : i = pos
          · subst e; exact ha
          · by_cases e : i = pos + 1
            · subst e; exact b1
            · by_cases e : i = pos + 2
              · subst e; exact b2
              · obtain rfl : i = pos + 3 := by omega
                exact b3
        · exact one
      · exact one

theorem Reach.iterAt {a w : World} (h : Reach a w) {k : Nat} (hk : a.heap.size ≤ k) (s : ByteArray) (pos : Nat) : Reach a (w.iterAt k s pos) := Lib.below_iterAt h hk s pos
theorem Reach.iter {a w : World} (h : Reach a w) (s : ByteArray) (pos : Nat) : Reach a (w.iter s pos) := Reach.alloc h _
theorem iterPos_of {w : World} {k : Nat} {s : ByteArray} {p : Nat} (h : w.heap[k]? = some (.stringIter s p)) : w.iterPos k = p := by simp [World.iterPos, h]
theorem iter_old (w : World) (s : ByteArray) (pos k : Nat) (h : k < w.heap.size) : (w.iter s pos).heap[k]? = w.heap[k]? := Below.heap_alloc w _ k h
theorem iter_size (w : World) (s : ByteArray) (pos : Nat) : (w.iter s pos).heap.size = w.heap.size + 1 := World.size_alloc _ _

/-- What holds at a round of the outer loop: the first pos bytes have none of the signs. -/
def OutRel (l a : List UInt8) (w : World) (pos : Nat) (wr : World) : Prop :=
  pos ≤ l.length ∧ wr.heap[w.heap.size]? = some (.stringIter ⟨l.toArray⟩ pos) ∧ Reach w wr ∧ w.heap.size < wr.heap.size ∧ (∀ j (_ : j < l.length), j < pos → l[j] ∉ a)
/-- .. of the inner loop: none of the first j signs is the one at hand. -/
def InRel (l a : List UInt8) (w w2 : World) (nx rn j : Nat) (wi : World) : Prop :=
  j ≤ a.length ∧ wi.heap[w2.heap.size]? = some (.stringIter ⟨a.toArray⟩ j) ∧ wi.heap[w.heap.size]? = some (.stringIter ⟨l.toArray⟩ nx) ∧ Reach w wi ∧ w.heap.size < wi.heap.size ∧ (∀ i (_ : i < a.length), i < j → (a[i]).toNat ≠ rn)

theorem out_next (l a : List UInt8) (w wr : World) (pos : Nat) (h : OutRel l a w pos wr) (_hlt : pos < l.length) :
    (wr.iterAt w.heap.size ⟨l.toArray⟩ (pos + (Utf8.decode ⟨l.toArray⟩ pos).2)).heap[w.heap.size]? = some (.stringIter ⟨l.toArray⟩ (pos + (Utf8.decode ⟨l.toArray⟩ pos).2)) ∧ Reach w (wr.iterAt w.heap.size ⟨l.toArray⟩ (pos + (Utf8.decode ⟨l.toArray⟩ pos).2)) ∧ w.heap.size < (wr.iterAt w.heap.size ⟨l.toArray⟩ (pos + (Utf8.decode ⟨l.toArray⟩ pos).2)).heap.size :=
  ⟨Lib.iterAt_heap _ _ _ _ _ h.2.1, Reach.iterAt h.2.2.1 (Nat.le_refl _) _ _, by rw [Lib.iterAt_size]; exact h.2.2.2.1⟩
theorem in_start (l a : List UInt8) (w w2 : World) (nx rn : Nat) (h1 : w2.heap[w.heap.size]? = some (.stringIter ⟨l.toArray⟩ nx)) (h2 : Reach w w2) (h3 : w.heap.size < w2.heap.size) :
    InRel l a w w2 nx rn 0 (w2.iter ⟨a.toArray⟩ 0) :=
  ⟨Nat.zero_le _, World.iter_heap _ _ _, by rw [iter_old _ _ _ _ h3]; exact h1, Reach.iter h2 _ _, by rw [iter_size]; omega, fun i _ h => absurd h (Nat.not_lt_zero _)⟩
theorem in_next (l a : List UInt8) (w w2 wi : World) (nx rn j : Nat) (h : InRel l a w w2 nx rn j wi) (hj : j < a.length) (hlt : w.heap.size < w2.heap.size) (hne : (a[j]).toNat ≠ rn) :
    InRel l a w w2 nx rn (j + 1) (wi.iterAt w2.heap.size ⟨a.toArray⟩ (j + 1)) := by
  obtain ⟨h1, h2, h3, h4, h5, h6⟩ := h
  refine ⟨hj, Lib.iterAt_heap _ _ _ _ _ h2, by rw [Lib.iterAt_other _ _ _ _ _ (by omega)]; exact h3, Reach.iterAt h4 (by omega) _ _, by rw [Lib.iterAt_size]; exact h5, fun i hi hij => ?_⟩
  by_cases e : i = j
  · subst e; exact hne
  · exact h6 i hi (by omega)
/-- Behind the inner loop: the sign at hand is none of those. -/
theorem out_end (l a : List UInt8) (w w2 wr wi : World) (pos j : Nat) (ho : OutRel l a w pos wr) (hlt : pos < l.length) (h : InRel l a w w2 (pos + (Utf8.decode ⟨l.toArray⟩ pos).2) (Utf8.decode ⟨l.toArray⟩ pos).1 j wi) (hj : ¬ j < a.length)
    (ha : ∀ b ∈ a, b.toNat < 128) : OutRel l a w (pos + (Utf8.decode ⟨l.toArray⟩ pos).2) wi := by
  obtain ⟨h1, h2, h3, h4, h5, h6⟩ := h
  obtain ⟨o1, o2, o3, o4, o5⟩ := ho
  have hnot : ∀ b ∈ a, b.toNat ≠ (Utf8.decode ⟨l.toArray⟩ pos).1 := fun b hb => by
    obtain ⟨i, hi, rfl⟩ := List.getElem_of_mem hb
    exact h6 i hi (by omega)
  by_cases hsm : (l[pos]).toNat < 128
  · have hd : Utf8.decode ⟨l.toArray⟩ pos = ((l[pos]).toNat, 1) := decode_ascii ⟨l.toArray⟩ pos hlt hsm
    rw [hd] at hnot h3 ⊢
    refine ⟨hlt, h3, h4, h5, fun j hj hjp => ?_⟩
    by_cases e : j = pos
    · subst e
      exact fun hm => hnot _ hm rfl
    · exact o5 j hj (by have : j < pos + 1 := hjp; omega)
  · obtain ⟨d1, d2⟩ := decode_span l pos hlt (by omega)
    refine ⟨d1, h3, h4, h5, fun j hj hjp hm => ?_⟩
    by_cases e : j < pos
    · exact o5 j hj e hm
    · have := d2 j hj (by omega) hjp
      have := ha _ hm
      omega
theorem found (l a : List UInt8) (w wr : World) (pos j : Nat) (ho : OutRel l a w pos wr) (hlt : pos < l.length) (hj : j < a.length) (he : (a[j]).toNat = (Utf8.decode ⟨l.toArray⟩ pos).1)
    (ha : ∀ b ∈ a, b.toNat < 128) : anyAtL l a = pos := by
  obtain ⟨o1, o2, o3, o4, o5⟩ := ho
  have h1 := ha _ (List.getElem_mem hj)
  by_cases hsm : (l[pos]).toNat < 128
  · have hd : Utf8.decode ⟨l.toArray⟩ pos = ((l[pos]).toNat, 1) := decode_ascii ⟨l.toArray⟩ pos hlt hsm
    rw [hd] at he
    have : l[pos] = a[j] := UInt8.toNat_inj.1 he.symm
    exact anyAtL_at l a pos hlt o5 (by rw [this]; exact List.getElem_mem hj)
  · have := (decode_high ⟨l.toArray⟩ pos hlt (by have : ¬ (l[pos]).toNat < 128 := hsm; show 128 ≤ (l[pos]).toNat; omega)).1
    omega

set_option maxRecDepth 100000 in
set_option maxHeartbeats 1000000 in
theorem anyAt_calls (l a : List UInt8) (w : World) (_hs : l.length ≤ 9223372036854775807) (ha : ∀ b ∈ a, b.toNat < 128) :
    Calls Tryz.prog 108 #[.string ⟨l.toArray⟩, .string ⟨a.toArray⟩] w fun e w' => e = .returned (.int .i64 (anyAtL l a)) ∧ Reach w w' := by
  have Ha := Lib.hid ha
  clear ha
  go_enter Tryz.func108, Tryz.ntmps108
  go_wp2
  go_loopw [5, 6, 8] (fun _ _ _ wr => ∃ pos : Nat, OutRel l a w pos wr) (fun _ _ _ wr => l.length - wr.iterPos w.heap.size)
  case atStart =>
    exact ⟨0, Nat.zero_le _, World.iter_heap _ _ _, Reach.iter (Reach.refl w) _ _, by rw [iter_size]; omega, fun j _ h => absurd h (Nat.not_lt_zero _)⟩
  case round =>
    obtain ⟨pos, hrel⟩ := hrel
    have hheap := hrel.2.1
    by_cases hlt : pos < l.length
    · have hnx : ∀ ty, (Instr.next (.pointer (some ⟨w.heap.size, 0, none⟩)) true ty).run Tryz.prog wr = _ := fun ty => Lib.run_next_any_at wr w.heap.size ⟨l.toArray⟩ pos ty hheap hlt
      have hstep : pos < pos + (Utf8.decode ⟨l.toArray⟩ pos).2 := by
        by_cases hsm : (l[pos]).toNat < 128
        · rw [decode_ascii ⟨l.toArray⟩ pos hlt hsm]; exact Nat.lt_succ_self _
        · have := (decode_high ⟨l.toArray⟩ pos hlt (by show 128 ≤ (l[pos]).toNat; omega)).2
          omega
      have hposr := iterPos_of hheap
      have Hstep := Lib.hid hstep
      have Hposr := Lib.hid hposr
      clear hheap hstep hposr
      go_wp2
      clear hnx
      obtain ⟨g1, g2, g3⟩ := out_next l a w wr pos hrel hlt
      have Hend := Lib.hid (fun w2 wi j => out_end l a w w2 wr wi pos j hrel hlt)
      have Hfound := Lib.hid (fun j => found l a w wr pos j hrel hlt)
      generalize wr.iterAt w.heap.size ⟨l.toArray⟩ (pos + (Utf8.decode ⟨l.toArray⟩ pos).2) = w2 at g1 g2 g3 ⊢
      generalize (Utf8.decode ⟨l.toArray⟩ pos).1 = rn at Hend Hfound ⊢
      generalize pos + (Utf8.decode ⟨l.toArray⟩ pos).2 = nx at Hend Hstep g1 ⊢
      have h0 := in_start l a w w2 nx rn g1 g2 g3
      have G3 := Lib.hid g3
      have Hrel := Lib.hid hrel
      clear g1 g2 g3 hrel
      go_loopw [8] (fun _ wi => ∃ j : Nat, InRel l a w w2 nx rn j wi) (fun _ wi => a.length - wi.iterPos w2.heap.size)
      case atStart => exact ⟨0, h0⟩
      case round =>
        obtain ⟨j, hin⟩ := hrel
        have hheap := hin.2.1
        by_cases hj : j < a.length
        · have h128 := Ha.out a[j] (List.getElem_mem hj)
          have hnx : ∀ ty, (Instr.next (.pointer (some ⟨w2.heap.size, 0, none⟩)) true ty).run Tryz.prog wr = _ := fun ty => Lib.run_next_ascii_at wr w2.heap.size ⟨a.toArray⟩ j ty hheap hj h128
          have hposr := iterPos_of hheap
          have Hposr2 := Lib.hid hposr
          clear hheap hposr h128
          by_cases he : (a[j]).toNat = rn
          · have hb : ((rn : Int) == ((a[j]).toNat : Int)) = true := by rw [he]; simp
            have hf := Hfound.out j hj he Ha.out
            have Hf := Lib.hid hf
            clear hf he
            go_wp2
            go_ret
            exact ⟨ret_int Hf.out.symm, Reach.iterAt hin.2.2.2.1 (by have := G3.out; omega) _ _⟩
          · have hb : ((rn : Int) == ((a[j]).toNat : Int)) = false := by simp; omega
            have hn := in_next l a w w2 wr nx rn j hin hj G3.out he
            have Hn := Lib.hid hn
            clear hn he
            go_wp2
            refine ⟨⟨j + 1, Hn.out⟩, ?_⟩
            rw [iterPos_of Hn.out.2.1, Hposr2.out]
            omega
        · have hnx : ∀ ty, (Instr.next (.pointer (some ⟨w2.heap.size, 0, none⟩)) true ty).run Tryz.prog wr = _ := fun ty => Lib.run_next_end_at wr w2.heap.size ⟨a.toArray⟩ j ty hheap hj
          have ho := Hend.out w2 wr j hin hj Ha.out
          have Ho := Lib.hid ho
          clear ho hheap
          go_wp2
          refine ⟨⟨_, Ho.out⟩, ?_⟩
          rw [iterPos_of Ho.out.2.1, Hposr.out]
          have := Hstep.out
          have := Ho.out.1
          omega
    · have hnx : ∀ ty, (Instr.next (.pointer (some ⟨w.heap.size, 0, none⟩)) true ty).run Tryz.prog wr = _ := fun ty => Lib.run_next_end_at wr w.heap.size ⟨l.toArray⟩ pos ty hheap hlt
      clear hheap
      go_wp2
      go_ret
      exact ⟨ret_int (anyAtL_none l a (fun j h => hrel.2.2.2.2 j h (by omega))).symm, hrel.2.2.1⟩

set_option maxRecDepth 100000 in
set_option maxHeartbeats 400000 in
theorem cut_calls (l a : List UInt8) (b o : Nat) (w : World) (hs : l.length ≤ 9223372036854775807) (ha : ∀ b ∈ a, b.toNat < 128)
    (hc : w.cell? ⟨b, o, none⟩ = some (.string ⟨l.toArray⟩)) (hf : w.frozen? ⟨b, o, none⟩ = false) (hb : b < w.heap.size) :
    Calls Tryz.prog 79 #[.pointer (some ⟨b, o, none⟩), .string ⟨a.toArray⟩] w fun e w' => e = .returned (.string ⟨(frontL l a).toArray⟩) ∧ ∃ W, Reach w W ∧ w' = W.setCell ⟨b, o, none⟩ (.string ⟨(restL l a).toArray⟩) := by
  have Ha := Lib.hid ha
  clear ha
  by_cases hneg : anyAtL l a < 0
  · obtain ⟨e1, e2⟩ := anyAtL_neg l a hneg
    have E1 := Lib.hid e1
    have E2 := Lib.hid e2
    clear e1 e2
    go_enter Tryz.func79, Tryz.ntmps79
    go_wp2_with (go_at_call 108; (with_reducible refine Calls.mono (anyAt_calls _ _ _ (by assumption) Ha.out) ?_); rintro e w' ⟨rfl, hb⟩; obtain ⟨hc, hf, hz⟩ := Reach.facts hb)
    go_ret
    refine ⟨ret_string E1.out.symm, w', hb, ?_⟩
    rw [E2.out]
  · obtain ⟨e1, e2, e3⟩ := anyAtL_pos l a (by omega)
    obtain ⟨k, hk⟩ : ∃ k : Nat, anyAtL l a = (k : Int) := ⟨(anyAtL l a).toNat, by omega⟩
    have C := fun W => anyAt_calls l a W hs Ha.out
    simp only [hk] at C
    have HC := Lib.hid C
    rw [hk, Int.toNat_natCast] at e1 e2 e3
    have E1 := Lib.hid e1
    have E2 := Lib.hid e2
    clear e1 e2 hneg hk C
    go_enter Tryz.func79, Tryz.ntmps79
    go_wp2_with (go_at_call 108; (with_reducible refine Calls.mono (HC.out _) ?_); rintro e w' ⟨rfl, hb⟩; obtain ⟨hc, hf, hz⟩ := Reach.facts hb)
    go_ret
    refine ⟨ret_string E1.out.symm, w', hb, ?_⟩
    rw [E2.out]
end Go.Proofs.YtbeaheicjopooaaGreatDoor
