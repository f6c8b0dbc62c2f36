/- What the reference answers of an origin's text. -/
import Derived.Test.YtbpijmmhgdemlaaGreatDoorProg
import Derived.Test.YtbpijmmhgdemlaaGreatDoorROrig
import Derived.Test.YtbpijmmhgdemlaaGreatDoorRefF
import Derived.Lib.ItoaLen
namespace Go.Proofs.YtbpijmmhgdemlaaGreatDoor
open Go.RowKit Go.Sort
attribute [local go_sem] get_mk mk_append mk_extract0 mk_extract_end mk_extract_cons empty_mk cell_grow frozen_grow size_grow
set_option maxRecDepth 100000 in
set_option maxHeartbeats 1000000 in
theorem small_nat (k : Nat) : ∀ (w : World), k ≤ 18446744073709551615 →
    Calls Tryz.prog 125 #[.int .u64 (k : Int)] w fun e w' => e = .returned (.string ⟨(Lib.decDigits k).toArray⟩) ∧ Reach w w' := by
  induction k using Nat.strongRecOn with
  | _ k ih =>
    intro w hk
    by_cases h : k < 10
    · have h1 : ¬ (10 : Int) ≤ k := by omega
      have hi := fun W => rdigits_calls (k : Int) W (by omega) (by omega)
      rw [itoa_nat (k : Int) (by omega), Int.toNat_natCast] at hi
      have HS := Lib.hid hi
      have hm : (k : Int) % 10 = k := by omega
      clear ih hi
      go_enter Tryz.func125, Tryz.ntmps125
      go_wp2_with (first | (go_at_call 115; (with_reducible refine Calls.mono (HS.out _) ?_); rintro e w' ⟨rfl, hb⟩; obtain ⟨hc, hf, hz⟩ := Reach.facts hb) | ((with_reducible refine wp_region_quiet_below (by kernel_rfl) (by kernel_rfl) ?_); (repeat (any_goals (first | (go_big_quiet_step ((first | (go_at_call 115; with_reducible exact reg_reach (HS.out _))))) | (quiet_step ((first | (go_at_call 115; with_reducible exact reg_reach (HS.out _))))) | (refine wpQuiet_step (fun K hK => ?_); go_simp; split <;> (refine hK _ ?_; clear hK K))))); all_goals (refine wpQuiet_nil ?_; intro _ hw'; obtain ⟨⟨dq, osq⟩, hw''⟩ := hw'; subst hw'')))
      go_ret
      exact ⟨rfl, by (repeat (first | (with_reducible assumption) | (with_reducible exact Reach.refl _) | (with_reducible refine Reach.alloc ?_ _) | (with_reducible refine Reach.drew ?_) | (with_reducible refine Reach.drewN ?_ _) | (with_reducible refine Reach.grow ?_ _ _) | (with_reducible refine Reach.setCell ?_ ?_ _) | (with_reducible refine Reach.trans ?_ (by with_reducible assumption)) | (show _ ≤ Addr.block _; first | (exact Nat.le_refl _) | (show (_ : Nat) ≤ _; omega)) | (simp; done) | (simp; omega)))⟩
    · have h1 : (10 : Int) ≤ k := by omega
      have i1 := fun W => ih (k / 10) (by omega) W (by omega)
      have i2 := fun W => rdigits_calls ((k : Int) % 10) W (by omega) (by omega)
      rw [show ((k / 10 : Nat) : Int) = (k : Int) / 10 by omega] at i1
      rw [itoa_nat ((k : Int) % 10) (by omega), show ((k : Int) % 10).toNat = k % 10 by omega] at i2
      have H1 := Lib.hid i1
      have H2 := Lib.hid i2
      have hd := Lib.hid (show Lib.decDigits k = Lib.decDigits (k / 10) ++ Lib.decDigits (k % 10) by rw [dec_step h, Lib.decDigits_one (show k % 10 < 10 by omega)])
      have hl2 : (Lib.decDigits (k % 10)).length ≤ 20 := by
        rw [Lib.decDigits_length]
        exact Lib.nDigits_le20 (k % 10) (by omega)
      have hl : (Lib.decDigits (k / 10)).length ≤ 20 := by
        rw [Lib.decDigits_length]
        exact Lib.nDigits_le20 (k / 10) (by omega)
      clear ih i1 i2 h
      go_enter Tryz.func125, Tryz.ntmps125
      go_wp2_with (first | (go_at_call 125; (with_reducible refine Calls.mono (H1.out _) ?_); rintro e w' ⟨rfl, hb⟩; obtain ⟨hc, hf, hz⟩ := Reach.facts hb) | (go_at_call 115; (with_reducible refine Calls.mono (H2.out _) ?_); rintro e w' ⟨rfl, hb⟩; obtain ⟨hc, hf, hz⟩ := Reach.facts hb) | ((with_reducible refine wp_region_quiet_below (by kernel_rfl) (by kernel_rfl) ?_); (repeat (any_goals (first | (go_big_quiet_step ((first | (go_at_call 125; with_reducible exact reg_reach (H1.out _)) | (go_at_call 115; with_reducible exact reg_reach (H2.out _))))) | (quiet_step ((first | (go_at_call 125; with_reducible exact reg_reach (H1.out _)) | (go_at_call 115; with_reducible exact reg_reach (H2.out _))))) | (refine wpQuiet_step (fun K hK => ?_); go_simp; split <;> (refine hK _ ?_; clear hK K))))); all_goals (refine wpQuiet_nil ?_; intro _ hw'; obtain ⟨⟨dq, osq⟩, hw''⟩ := hw'; subst hw'')))
      go_ret
      exact ⟨ret_string (by rw [hd.out]), by (repeat (first | (with_reducible assumption) | (with_reducible exact Reach.refl _) | (with_reducible refine Reach.alloc ?_ _) | (with_reducible refine Reach.drew ?_) | (with_reducible refine Reach.drewN ?_ _) | (with_reducible refine Reach.grow ?_ _ _) | (with_reducible refine Reach.setCell ?_ ?_ _) | (with_reducible refine Reach.trans ?_ (by with_reducible assumption)) | (show _ ≤ Addr.block _; first | (exact Nat.le_refl _) | (show (_ : Nat) ≤ _; omega)) | (simp; done) | (simp; omega)))⟩
set_option maxRecDepth 100000 in
set_option maxHeartbeats 1000000 in
theorem digits7_calls (n : Int) (w : World) (h0 : -9223372036854775808 ≤ n) (h1 : n ≤ 9223372036854775807) :
    Calls Tryz.prog 82 #[.int .i64 n] w fun e w' => e = .returned (.string ⟨(Lib.itoa n).toArray⟩) ∧ Reach w w' := by
  by_cases hn : 0 ≤ n
  · go_enter Tryz.func82, Tryz.ntmps82
    go_wp2_with (first | (go_at_call 115; (with_reducible refine Calls.mono (rdigits_calls _ _ (by omega) (by omega)) ?_); rintro e w' ⟨rfl, hb⟩; obtain ⟨hc, hf, hz⟩ := Reach.facts hb) | ((with_reducible refine wp_region_quiet_below (by kernel_rfl) (by kernel_rfl) ?_); (repeat (any_goals (first | (go_big_quiet_step ((first | (go_at_call 115; with_reducible exact reg_reach (rdigits_calls _ _ (by omega) (by omega)))))) | (quiet_step ((first | (go_at_call 115; with_reducible exact reg_reach (rdigits_calls _ _ (by omega) (by omega)))))) | (refine wpQuiet_step (fun K hK => ?_); go_simp; split <;> (refine hK _ ?_; clear hK K))))); all_goals (refine wpQuiet_nil ?_; intro _ hw'; obtain ⟨⟨dq, osq⟩, hw''⟩ := hw'; subst hw'')))
    go_ret
    exact ⟨rfl, by (repeat (first | (with_reducible assumption) | (with_reducible exact Reach.refl _) | (with_reducible refine Reach.alloc ?_ _) | (with_reducible refine Reach.drew ?_) | (with_reducible refine Reach.drewN ?_ _) | (with_reducible refine Reach.grow ?_ _ _) | (with_reducible refine Reach.setCell ?_ ?_ _) | (with_reducible refine Reach.trans ?_ (by with_reducible assumption)) | (show _ ≤ Addr.block _; first | (exact Nat.le_refl _) | (show (_ : Nat) ≤ _; omega)) | (simp; done) | (simp; omega)))⟩
  · have hs := fun W => small_nat n.natAbs W (by omega)
    rw [show ((n.natAbs : Nat) : Int) = -n by omega] at hs
    have hw : IntKind.u64.wrap (-IntKind.u64.wrap n) = -n := by simp [IntKind.wrap, IntKind.signed, IntKind.bits]; omega
    rw [← hw] at hs
    have HS := Lib.hid hs
    have hi : Lib.itoa n = 45 :: Lib.decDigits n.natAbs := by unfold Lib.itoa; rw [if_pos (by omega)]
    have HI := Lib.hid hi
    have hl : (Lib.decDigits n.natAbs).length ≤ 20 := by
      rw [Lib.decDigits_length]
      exact Lib.nDigits_le20 _ (by omega)
    clear hs hi hw
    go_enter Tryz.func82, Tryz.ntmps82
    go_wp2_with (first | (go_at_call 125; (with_reducible refine Calls.mono (HS.out _) ?_); rintro e w' ⟨rfl, hb⟩; obtain ⟨hc, hf, hz⟩ := Reach.facts hb) | ((with_reducible refine wp_region_quiet_below (by kernel_rfl) (by kernel_rfl) ?_); (repeat (any_goals (first | (go_big_quiet_step ((first | (go_at_call 125; with_reducible exact reg_reach (HS.out _))))) | (quiet_step ((first | (go_at_call 125; with_reducible exact reg_reach (HS.out _))))) | (refine wpQuiet_step (fun K hK => ?_); go_simp; split <;> (refine hK _ ?_; clear hK K))))); all_goals (refine wpQuiet_nil ?_; intro _ hw'; obtain ⟨⟨dq, osq⟩, hw''⟩ := hw'; subst hw'')))
    go_ret
    exact ⟨ret_string (by rw [HI.out]), by (repeat (first | (with_reducible assumption) | (with_reducible exact Reach.refl _) | (with_reducible refine Reach.alloc ?_ _) | (with_reducible refine Reach.drew ?_) | (with_reducible refine Reach.drewN ?_ _) | (with_reducible refine Reach.grow ?_ _ _) | (with_reducible refine Reach.setCell ?_ ?_ _) | (with_reducible refine Reach.trans ?_ (by with_reducible assumption)) | (show _ ≤ Addr.block _; first | (exact Nat.le_refl _) | (show (_ : Nat) ≤ _; omega)) | (simp; done) | (simp; omega)))⟩
end Go.Proofs.YtbpijmmhgdemlaaGreatDoor
