/- What the reference answers of numbers and of an address' text; texts of at most a million bytes. -/
import Derived.Test.YtbeaheicjopooaaGreatDoorProg
import Derived.Test.YtbeaheicjopooaaGreatDoorEnv
import Derived.Test.YtbeaheicjopooaaGreatDoorPureG
import Derived.Test.YtbeaheicjopooaaGreatDoorRefA
import Derived.WalkSmall
import Derived.Lib.ItoaLen
namespace Go.Proofs.YtbeaheicjopooaaGreatDoor
open Go.RowKit Go.Sort
attribute [local go_sem] get_mk mk_append mk_extract0 mk_extract_end mk_extract_cons empty_mk cell_grow frozen_grow size_grow
attribute [local go_sem] mk_extract
theorem digit_piece (k : Nat) (h : k < 10) : (([48, 49, 50, 51, 52, 53, 54, 55, 56, 57] : List UInt8).take (k + 1)).drop k = Lib.decDigits k := by
  rw [Lib.decDigits_one h]
  have : ∀ k : Fin 10, (([48, 49, 50, 51, 52, 53, 54, 55, 56, 57] : List UInt8).take (k.val + 1)).drop k.val = [UInt8.ofNat (48 + k.val)] := by decide
  exact this ⟨k, h⟩
set_option maxRecDepth 100000 in
set_option maxHeartbeats 1000000 in
theorem rdigits_nat (k : Nat) : ∀ (w : World), k ≤ 9223372036854775807 →
    Calls Tryz.prog 91 #[.int .i64 (k : Int)] w fun e w' => e = .returned (.string ⟨(Lib.decDigits k).toArray⟩) ∧ Reach w w' := by
  induction k using Nat.strongRecOn with
  | _ k ih =>
    intro w hk
    by_cases h : k < 10
    · have hp := Lib.hid (digit_piece k h)
      have h1 : ¬ (10 : Int) ≤ k := by omega
      clear ih
      go_enter Tryz.func91, Tryz.ntmps91
      go_wp2_with (first | ((with_reducible refine wp_region_quiet_below (by kernel_rfl) (by kernel_rfl) ?_); (repeat (any_goals (first | (go_big_quiet_step (fail)) | (quiet_step (fail)) | (refine wpQuiet_step (fun K hK => ?_); go_simp; split <;> (refine hK _ ?_; clear hK K))))); all_goals (refine wpQuiet_nil ?_; intro _ hw'; obtain ⟨⟨dq, osq⟩, hw''⟩ := hw'; subst hw'')))
      go_ret
      exact ⟨ret_string (by rw [← hp.out]; rfl), by (repeat (first | (with_reducible assumption) | (with_reducible exact Reach.refl _) | (with_reducible refine Reach.alloc ?_ _) | (with_reducible refine Reach.drew ?_) | (with_reducible refine Reach.drewN ?_ _) | (with_reducible refine Reach.grow ?_ _ _) | (with_reducible refine Reach.setCell ?_ ?_ _) | (with_reducible refine Reach.trans ?_ (by with_reducible assumption)) | (show _ ≤ Addr.block _; first | (exact Nat.le_refl _) | (show (_ : Nat) ≤ _; omega)) | (simp; done) | (simp; omega)))⟩
    · have h1 : (10 : Int) ≤ k := by omega
      have i1 := fun W => ih (k / 10) (by omega) W (by omega)
      have i2 := fun W => ih (k % 10) (by omega) W (by omega)
      rw [show ((k / 10 : Nat) : Int) = (k : Int) / 10 by omega] at i1
      rw [show ((k % 10 : Nat) : Int) = (k : Int) % 10 by omega] at i2
      have H1 := Lib.hid i1
      have H2 := Lib.hid i2
      have hd := Lib.hid (dec_step h)
      have h4 := Lib.hid (Lib.decDigits_one (show k % 10 < 10 by omega))
      have hl : (Lib.decDigits (k / 10)).length + (Lib.decDigits (k % 10)).length ≤ 40 := by
        rw [Lib.decDigits_length, Lib.decDigits_length]
        have := Lib.nDigits_le20 (k / 10) (by omega)
        have := Lib.nDigits_le20 (k % 10) (by omega)
        omega
      clear ih i1 i2 h
      go_enter Tryz.func91, Tryz.ntmps91
      go_wp2_with (first | (go_at_call 91; (with_reducible refine Calls.mono (H1.out _) ?_); rintro e w' ⟨rfl, hb⟩; obtain ⟨hc, hf, hz⟩ := Reach.facts hb) | (go_at_call 91; (with_reducible refine Calls.mono (H2.out _) ?_); rintro e w' ⟨rfl, hb⟩; obtain ⟨hc, hf, hz⟩ := Reach.facts hb) | ((with_reducible refine wp_region_quiet_below (by kernel_rfl) (by kernel_rfl) ?_); (repeat (any_goals (first | (go_big_quiet_step ((first | (go_at_call 91; with_reducible exact reg_reach (H1.out _)) | (go_at_call 91; with_reducible exact reg_reach (H2.out _))))) | (quiet_step ((first | (go_at_call 91; with_reducible exact reg_reach (H1.out _)) | (go_at_call 91; with_reducible exact reg_reach (H2.out _))))) | (refine wpQuiet_step (fun K hK => ?_); go_simp; split <;> (refine hK _ ?_; clear hK K))))); all_goals (refine wpQuiet_nil ?_; intro _ hw'; obtain ⟨⟨dq, osq⟩, hw''⟩ := hw'; subst hw'')))
      go_ret
      exact ⟨ret_string (by rw [hd.out, h4.out]), by (repeat (first | (with_reducible assumption) | (with_reducible exact Reach.refl _) | (with_reducible refine Reach.alloc ?_ _) | (with_reducible refine Reach.drew ?_) | (with_reducible refine Reach.drewN ?_ _) | (with_reducible refine Reach.grow ?_ _ _) | (with_reducible refine Reach.setCell ?_ ?_ _) | (with_reducible refine Reach.trans ?_ (by with_reducible assumption)) | (show _ ≤ Addr.block _; first | (exact Nat.le_refl _) | (show (_ : Nat) ≤ _; omega)) | (simp; done) | (simp; omega)))⟩
theorem rdigits_calls (n : Int) (w : World) (h0 : 0 ≤ n) (h1 : n ≤ 9223372036854775807) :
    Calls Tryz.prog 91 #[.int .i64 n] w fun e w' => e = .returned (.string ⟨(Lib.itoa n).toArray⟩) ∧ Reach w w' := by
  rw [itoa_nat n h0]
  have := rdigits_nat n.toNat w (by omega)
  rwa [Int.toNat_of_nonneg h0] at this
set_option maxRecDepth 100000 in
set_option maxHeartbeats 1000000 in
theorem rtext_calls (o : Bool) (a b : List UInt8) (n : Int) (c d : List UInt8) (w : World) (h1 : 0 ≤ n) (h2 : n ≤ 9223372036854775807)
    (ha : a.length ≤ 1000000) (hb : b.length ≤ 1000000) (hc : c.length ≤ 1000000) (hd : d.length ≤ 1000000) :
    Calls Tryz.prog 42 #[.agg #[.bool o, .string ⟨a.toArray⟩, .string ⟨b.toArray⟩, .int .i64 n, .string ⟨c.toArray⟩, .string ⟨d.toArray⟩]] w fun e w' => e = .returned (.string ⟨(textL ⟨o, a, b, n, c, d⟩).toArray⟩) ∧ Reach w w' := by
  have hlen := Lib.itoa_length_le n (by omega) h2
  cases o
  · by_cases h0 : n = 0
    · subst h0
      go_enter Tryz.func42, Tryz.ntmps42
      go_wp2_with (first | (go_at_call 91; (with_reducible refine Calls.mono (rdigits_calls _ _ (by omega) (by omega)) ?_); rintro e w' ⟨rfl, hb⟩; obtain ⟨hc, hf, hz⟩ := Reach.facts hb) | ((with_reducible refine wp_region_quiet_below (by kernel_rfl) (by kernel_rfl) ?_); (repeat (any_goals (first | (go_big_quiet_step ((first | (go_at_call 91; with_reducible exact reg_reach (rdigits_calls _ _ (by omega) (by omega)))))) | (quiet_step ((first | (go_at_call 91; with_reducible exact reg_reach (rdigits_calls _ _ (by omega) (by omega)))))) | (refine wpQuiet_step (fun K hK => ?_); go_simp; split <;> (refine hK _ ?_; clear hK K))))); all_goals (refine wpQuiet_nil ?_; intro _ hw'; obtain ⟨⟨dq, osq⟩, hw''⟩ := hw'; subst hw'')))
      go_ret
      exact ⟨ret_string (by simp [textL]), by (repeat (first | (with_reducible assumption) | (with_reducible exact Reach.refl _) | (with_reducible refine Reach.alloc ?_ _) | (with_reducible refine Reach.drew ?_) | (with_reducible refine Reach.drewN ?_ _) | (with_reducible refine Reach.grow ?_ _ _) | (with_reducible refine Reach.setCell ?_ ?_ _) | (with_reducible refine Reach.trans ?_ (by with_reducible assumption)) | (show _ ≤ Addr.block _; first | (exact Nat.le_refl _) | (show (_ : Nat) ≤ _; omega)) | (simp; done) | (simp; omega)))⟩
    · have hb0 : 0 < n := by omega
      go_enter Tryz.func42, Tryz.ntmps42
      go_wp2_with (first | (go_at_call 91; (with_reducible refine Calls.mono (rdigits_calls _ _ (by omega) (by omega)) ?_); rintro e w' ⟨rfl, hb⟩; obtain ⟨hc, hf, hz⟩ := Reach.facts hb) | ((with_reducible refine wp_region_quiet_below (by kernel_rfl) (by kernel_rfl) ?_); (repeat (any_goals (first | (go_big_quiet_step ((first | (go_at_call 91; with_reducible exact reg_reach (rdigits_calls _ _ (by omega) (by omega)))))) | (quiet_step ((first | (go_at_call 91; with_reducible exact reg_reach (rdigits_calls _ _ (by omega) (by omega)))))) | (refine wpQuiet_step (fun K hK => ?_); go_simp; split <;> (refine hK _ ?_; clear hK K))))); all_goals (refine wpQuiet_nil ?_; intro _ hw'; obtain ⟨⟨dq, osq⟩, hw''⟩ := hw'; subst hw'')))
      go_ret
      exact ⟨ret_string (by simp [textL, h0]), by (repeat (first | (with_reducible assumption) | (with_reducible exact Reach.refl _) | (with_reducible refine Reach.alloc ?_ _) | (with_reducible refine Reach.drew ?_) | (with_reducible refine Reach.drewN ?_ _) | (with_reducible refine Reach.grow ?_ _ _) | (with_reducible refine Reach.setCell ?_ ?_ _) | (with_reducible refine Reach.trans ?_ (by with_reducible assumption)) | (show _ ≤ Addr.block _; first | (exact Nat.le_refl _) | (show (_ : Nat) ≤ _; omega)) | (simp; done) | (simp; omega)))⟩
  · go_enter Tryz.func42, Tryz.ntmps42
    go_wp2_with (first | (go_at_call 91; (with_reducible refine Calls.mono (rdigits_calls _ _ (by omega) (by omega)) ?_); rintro e w' ⟨rfl, hb⟩; obtain ⟨hc, hf, hz⟩ := Reach.facts hb) | ((with_reducible refine wp_region_quiet_below (by kernel_rfl) (by kernel_rfl) ?_); (repeat (any_goals (first | (go_big_quiet_step ((first | (go_at_call 91; with_reducible exact reg_reach (rdigits_calls _ _ (by omega) (by omega)))))) | (quiet_step ((first | (go_at_call 91; with_reducible exact reg_reach (rdigits_calls _ _ (by omega) (by omega)))))) | (refine wpQuiet_step (fun K hK => ?_); go_simp; split <;> (refine hK _ ?_; clear hK K))))); all_goals (refine wpQuiet_nil ?_; intro _ hw'; obtain ⟨⟨dq, osq⟩, hw''⟩ := hw'; subst hw'')))
    go_ret
    exact ⟨ret_string (by simp [textL]), by (repeat (first | (with_reducible assumption) | (with_reducible exact Reach.refl _) | (with_reducible refine Reach.alloc ?_ _) | (with_reducible refine Reach.drew ?_) | (with_reducible refine Reach.drewN ?_ _) | (with_reducible refine Reach.grow ?_ _ _) | (with_reducible refine Reach.setCell ?_ ?_ _) | (with_reducible refine Reach.trans ?_ (by with_reducible assumption)) | (show _ ≤ Addr.block _; first | (exact Nat.le_refl _) | (show (_ : Nat) ≤ _; omega)) | (simp; done) | (simp; omega)))⟩
end Go.Proofs.YtbeaheicjopooaaGreatDoor
