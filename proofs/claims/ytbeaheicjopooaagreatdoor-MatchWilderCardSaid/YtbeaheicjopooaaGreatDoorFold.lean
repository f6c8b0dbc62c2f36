/- What package fold's Trim and Lower answer, for every text below the model's bound. -/
import Derived.Test.YtbeaheicjopooaaGreatDoorProg
import Derived.Test.YtbeaheicjopooaaGreatDoorEnv
import Derived.Test.YtbeaheicjopooaaGreatDoorPure
import Derived.Test.YtbeaheicjopooaaGreatDoorShelf
import Derived.Laws.IdiomStrings
namespace Go.Proofs.YtbeaheicjopooaaGreatDoor
open Go.RowKit Go.Sort
attribute [local go_sem] get_mk mk_append mk_extract0 mk_extract_end mk_extract_cons empty_mk cell_grow frozen_grow size_grow

theorem strTrim_calls (l : List UInt8) (w : World) (hs : l.length ≤ 9223372036854775807) :
    Calls Tryz.prog 82 #[.string ⟨l.toArray⟩, .string ⟨#[9, 10, 12, 13, 32]⟩] w fun e w' => e = .returned (.string ⟨(trimL l).toArray⟩) ∧ Reach w w' :=
  Any.strings_Trim_laid Tryz.lays160 (by kernel_rfl) ⟨l.toArray⟩ ⟨#[9, 10, 12, 13, 32]⟩ w hs (by decide) (ascii_of_all (by decide))
set_option maxHeartbeats 400000 in
theorem trim_calls (l : List UInt8) (w : World) (hs : l.length ≤ 9223372036854775807) :
    Calls Tryz.prog 35 #[.string ⟨l.toArray⟩] w fun e w' => e = .returned (.string ⟨(trimL l).toArray⟩) ∧ Reach w w' := by
  go_enter Tryz.func35, Tryz.ntmps35
  go_wp2_with (first | (go_at_call 82; (with_reducible refine Calls.mono (strTrim_calls _ _ (by first | (with_reducible assumption) | omega | (simp; done) | (simp; omega))) ?_); rintro e w' ⟨rfl, hb⟩; obtain ⟨hc, hf, hz⟩ := Reach.facts hb) | ((with_reducible refine wp_region_quiet_below (by kernel_rfl) (by kernel_rfl) ?_); (repeat (any_goals (first | (go_big_quiet_step ((first | (go_at_call 82; with_reducible exact reg_reach (strTrim_calls _ _ (by first | (with_reducible assumption) | omega | (simp; done) | (simp; omega))))))) | (quiet_step ((first | (go_at_call 82; with_reducible exact reg_reach (strTrim_calls _ _ (by first | (with_reducible assumption) | omega | (simp; done) | (simp; omega))))))) | (refine wpQuiet_step (fun K hK => ?_); go_simp; split <;> (refine hK _ ?_; clear hK K))))); all_goals (refine wpQuiet_nil ?_; intro _ hw'; obtain ⟨⟨dq, osq⟩, hw''⟩ := hw'; subst hw'')))
  go_ret
  exact ⟨rfl, by (repeat (first | (with_reducible assumption) | (with_reducible exact Reach.refl _) | (with_reducible refine Reach.alloc ?_ _) | (with_reducible refine Reach.drew ?_) | (with_reducible refine Reach.drewN ?_ _) | (with_reducible refine Reach.grow ?_ _ _) | (with_reducible refine Reach.setCell ?_ ?_ _) | (with_reducible refine Reach.trans ?_ (by with_reducible assumption)) | (show _ ≤ Addr.block _; first | (exact Nat.le_refl _) | (show (_ : Nat) ≤ _; omega)) | (simp; done) | (simp; omega)))⟩

/-- Block B holds the bytes m, and they may be written. -/
def HoldsB (w : World) (B : Nat) (m : List UInt8) : Prop := ∀ j (h : j < m.length), w.cell? ⟨B, j, none⟩ = some (.int .u8 (m[j].toNat : Int)) ∧ w.frozen? ⟨B, j, none⟩ = false
theorem bytes_of (l : List UInt8) (w : World) : ∃ cap W1, (convert 9 80 (.string ⟨l.toArray⟩)).run Tryz.prog w = .ok (.slice (some ⟨w.heap.size, 0, none⟩) l.length cap) W1 ∧ Reach w W1 ∧ HoldsB W1 w.heap.size l := by
  refine ⟨_, _, run_bytes_of_string w 9 80 5 ⟨l.toArray⟩ Tryz.underlying9 Tryz.underlying80 Tryz.underlying5, Reach.alloc (Reach.drew (Reach.refl w)) _, ?_⟩
  intro j hj
  have hsz : (⟨l.toArray⟩ : ByteArray).size = l.length := rfl
  have hlt : j < (bytesRow ⟨l.toArray⟩ (grownCap w (⟨l.toArray⟩ : ByteArray).size 0 5)).size := by
    simp only [bytesRow, Array.size_append, Array.size_map]
    show j < l.toArray.size + _
    simp; omega
  constructor
  · simp [World.cell?, World.alloc, World.drew, -World.alloc_eq, -World.drew_eq, bytesRow, Array.getElem?_append, hj]
  · simp [World.frozen?, World.alloc, World.drew, -World.alloc_eq, -World.drew_eq]
    omega
theorem HoldsB.set {w : World} {B : Nat} {m : List UInt8} (h : HoldsB w B m) (k : Nat) (hk : k < m.length) (b : UInt8) : HoldsB (w.setCell ⟨B, k, none⟩ (.int .u8 (b.toNat : Int))) B (m.set k b) := by
  intro j hj
  have hj' : j < m.length := by simpa using hj
  obtain ⟨c1, c2⟩ := h j hj'
  obtain ⟨k1, k2⟩ := h k hk
  rw [List.getElem_set]
  constructor
  · split
    · rename_i e
      subst e
      exact World.cell?_setCell_same _ _ _ k1
    · rename_i e
      rw [World.cell?_setCell_other _ _ _ _ (by intro x; cases x; exact e rfl)]
      exact c1
  · rw [World.frozen?_setCell]
    exact c2
theorem HoldsB.reach {w w' : World} {B : Nat} {m : List UInt8} (h : HoldsB w B m) (hr : Reach w w') (hB : B < w.heap.size) : HoldsB w' B m := by
  intro j hj
  obtain ⟨c1, c2⟩ := h j hj
  obtain ⟨f1, f2, _⟩ := Reach.facts hr
  exact ⟨by rw [f1 _ _ hB]; exact c1, by rw [f2 _ _ hB]; exact c2⟩
theorem low_small (b : UInt8) (h : ¬ (65 ≤ (b.toNat : Int) ∧ (b.toNat : Int) ≤ 90)) : low b = b := by
  unfold low
  rw [if_neg (by omega)]
theorem low_great (b : UInt8) (h1 : 65 ≤ (b.toNat : Int)) (h2 : (b.toNat : Int) ≤ 90) : ((low b).toNat : Int) = (b.toNat : Int) + 97 - 65 := by
  unfold low
  rw [if_pos (by omega), UInt8.toNat_add]
  simp
  omega

set_option maxRecDepth 100000 in
set_option maxHeartbeats 400000 in
theorem lower_calls (l : List UInt8) (w : World) (hs : l.length ≤ 9223372036854775807) :
    Calls Tryz.prog 46 #[.string ⟨l.toArray⟩] w fun e w' => e = .returned (.string ⟨(lowerL l).toArray⟩) ∧ Reach w w' := by
  obtain ⟨cap, W1, hrun, hr1, hh1⟩ := bytes_of l w
  have Hh1 := Lib.hid hh1
  have Hr1 := Lib.hid hr1
  clear hh1 hr1
  go_enter Tryz.func46, Tryz.ntmps46
  go_wp2
  clear hrun
  go_loopw [4, 5, 10] (fun _ _ i wr => ∃ k : Nat, k ≤ l.length ∧ i = .int .i64 k ∧ RowKit.Hid (Reach w wr ∧ HoldsB wr w.heap.size (mixL l k))) (fun _ _ i _ => l.length - (intOf i).toNat)
  case atStart => exact ⟨0, Nat.zero_le _, rfl, Hr1.out, by rw [mixL_zero]; exact Hh1.out⟩
  case round =>
    obtain ⟨k, hk, rfl, hrel⟩ := hrel
    by_cases hlt : k < l.length
    · have hcell := ((hrel.out).2 k (by rw [mixL_length]; exact hlt)).1
      have hfrz := ((hrel.out).2 k (by rw [mixL_length]; exact hlt)).2
      rw [mixL_at l k hlt] at hcell
      go_wp2
      · rename_i h1 h2
        refine ⟨⟨k + 1, by omega, by go_num, ?_⟩, by simp [intOf]; omega⟩
        have hset := HoldsB.set hrel.out.2 k (by rw [mixL_length]; exact hlt) (low l[k])
        rw [low_great _ h1 h2, ← mixL_succ l k hlt] at hset
        exact ⟨Reach.setCell hrel.out.1 (Nat.le_refl _) _, hset⟩
      · rename_i h1 h2
        refine ⟨⟨k + 1, by omega, by go_num, ?_⟩, by simp [intOf]; omega⟩
        show Reach w wr ∧ HoldsB wr w.heap.size (mixL l (k + 1))
        rw [mixL_same l k hlt (low_small _ (by omega))]
        exact hrel.out
      · rename_i h1
        refine ⟨⟨k + 1, by omega, by go_num, ?_⟩, by simp [intOf]; omega⟩
        show Reach w wr ∧ HoldsB wr w.heap.size (mixL l (k + 1))
        rw [mixL_same l k hlt (low_small _ (by omega))]
        exact hrel.out
    · have hk2 : k = l.length := by omega
      have hh := hrel.out.2
      rw [hk2, mixL_all] at hh
      have hback := run_convert_bytes_back (P := Tryz.prog) (w := wr) 80 9 5 ⟨w.heap.size, 0, none⟩ cap (lowerL l) Tryz.underlying80 Tryz.underlying5 Tryz.underlying9
        (fun j hj => by
          have := (hh j hj).1
          cases j with
          | zero => exact this
          | succ j => simpa [Addr.add] using this)
      have hr := hrel.out.1
      rw [show (lowerL l).length = l.length by simp [lowerL]] at hback
      clear hh hk2
      go_wp2
      go_ret
      exact ⟨rfl, hr⟩
end Go.Proofs.YtbeaheicjopooaaGreatDoor
