/- What the reference answers of schemes, ports, hosts and bytes; texts of at most nine quintillion bytes. -/
import Derived.Test.YtbeaheicjopooaaGreatDoorProg
import Derived.Test.YtbeaheicjopooaaGreatDoorEnv
import Derived.Test.YtbeaheicjopooaaGreatDoorPure
import Derived.WalkSmall
namespace Go.Proofs.YtbeaheicjopooaaGreatDoor
open Go.RowKit Go.Sort
attribute [local go_sem] get_mk mk_append mk_extract0 mk_extract_end mk_extract_cons empty_mk cell_grow frozen_grow size_grow

theorem rletter_calls (c : Int) (w : World) : Calls Tryz.prog 93 #[.int .u8 c] w fun e w' => e = .returned (.bool (isLetter c)) ∧ w = w' := by
  go_enter Tryz.func93, Tryz.ntmps93
  go_wp2_with (first | ((with_reducible refine wp_region_quiet_below (by kernel_rfl) (by kernel_rfl) ?_); (repeat (any_goals (first | (go_big_quiet_step (fail)) | (quiet_step (fail)) | (refine wpQuiet_step (fun K hK => ?_); go_simp; split <;> (refine hK _ ?_; clear hK K))))); all_goals (refine wpQuiet_nil ?_; intro _ hw'; obtain ⟨⟨dq, osq⟩, hw''⟩ := hw'; subst hw'')))
  all_goals (go_ret; exact ⟨ret_bool (by first | (simp_all [isLetter]; done) | (simp_all [isLetter]; intros; omega) | (rw [Bool.eq_iff_iff]; simp_all [isLetter]; intros; omega)), rfl⟩)
theorem rdigit_calls (c : Int) (w : World) : Calls Tryz.prog 94 #[.int .u8 c] w fun e w' => e = .returned (.bool (isDigit c)) ∧ w = w' := by
  go_enter Tryz.func94, Tryz.ntmps94
  go_wp2_with (first | ((with_reducible refine wp_region_quiet_below (by kernel_rfl) (by kernel_rfl) ?_); (repeat (any_goals (first | (go_big_quiet_step (fail)) | (quiet_step (fail)) | (refine wpQuiet_step (fun K hK => ?_); go_simp; split <;> (refine hK _ ?_; clear hK K))))); all_goals (refine wpQuiet_nil ?_; intro _ hw'; obtain ⟨⟨dq, osq⟩, hw''⟩ := hw'; subst hw'')))
  all_goals (go_ret; exact ⟨ret_bool (by first | (simp_all [isDigit]; done) | (simp_all [isDigit]; intros; omega) | (rw [Bool.eq_iff_iff]; simp_all [isDigit]; intros; omega)), rfl⟩)
set_option maxHeartbeats 400000 in
theorem rdefault_calls (l : List UInt8) (w : World) : Calls Tryz.prog 58 #[.string ⟨l.toArray⟩] w fun e w' => e = .returned (.int .i64 (defPort l)) ∧ w = w' := by
  go_enter Tryz.func58, Tryz.ntmps58
  go_wp2_with (first | ((with_reducible refine wp_region_quiet_below (by kernel_rfl) (by kernel_rfl) ?_); (repeat (any_goals (first | (go_big_quiet_step (fail)) | (quiet_step (fail)) | (refine wpQuiet_step (fun K hK => ?_); go_simp; split <;> (refine hK _ ?_; clear hK K))))); all_goals (refine wpQuiet_nil ?_; intro _ hw'; obtain ⟨⟨dq, osq⟩, hw''⟩ := hw'; subst hw'')))
  all_goals (go_ret; exact ⟨ret_int (by first | (simp_all [defPort]; done) | (simp_all [defPort]; intros; omega) | (rw [Bool.eq_iff_iff]; simp_all [defPort]; intros; omega)), rfl⟩)
theorem headD_at (l : List UInt8) (h : 0 < l.length) : l.headD 0 = l[0] := by
  cases l with
  | nil => simp at h
  | cons b l => rfl
theorem schemeB_eq (l : List UInt8) (h : 0 < l.length) : schemeB l = (decide (l.length ≤ 20) && isLetter (l[0].toNat : Int) && allB schByte l) := by
  unfold schemeB
  rw [headD_at l h]
  cases l with
  | nil => simp at h
  | cons b l => simp
set_option maxRecDepth 100000 in
set_option maxHeartbeats 1000000 in
theorem rscheme_calls (l : List UInt8) (w : World) (hs : l.length ≤ 9223372036854775807) :
    Calls Tryz.prog 48 #[.string ⟨l.toArray⟩] w fun e w' => e = .returned (.bool (schemeB l)) ∧ w = w' := by
  by_cases h0 : 0 < l.length
  · rw [schemeB_eq l h0]
    by_cases h1 : l.length ≤ 20
    · rw [decide_eq_true h1]
      have g1 : ¬ (20 : Int) < l.length := by omega
      have g0 : ¬ (l.length : Int) < 1 := by omega
      cases hL : isLetter (l[0].toNat : Int)
      · simp only [Bool.and_false, Bool.false_and]
        go_enter Tryz.func48, Tryz.ntmps48
        go_wp2_with (first | (go_at_call 93; (with_reducible refine Calls.mono (rletter_calls _ _) ?_); rintro e w' ⟨rfl, rfl⟩) | (go_at_call 94; (with_reducible refine Calls.mono (rdigit_calls _ _) ?_); rintro e w' ⟨rfl, rfl⟩) | ((with_reducible refine wp_region_quiet_below (by kernel_rfl) (by kernel_rfl) ?_); (repeat (any_goals (first | (go_big_quiet_step ((first | (go_at_call 93; with_reducible exact reg_pure (rletter_calls _ _)) | (go_at_call 94; with_reducible exact reg_pure (rdigit_calls _ _))))) | (quiet_step ((first | (go_at_call 93; with_reducible exact reg_pure (rletter_calls _ _)) | (go_at_call 94; with_reducible exact reg_pure (rdigit_calls _ _))))) | (refine wpQuiet_step (fun K hK => ?_); go_simp; split <;> (refine hK _ ?_; clear hK K))))); all_goals (refine wpQuiet_nil ?_; intro _ hw'; obtain ⟨⟨dq, osq⟩, hw''⟩ := hw'; subst hw'')))
        all_goals (go_ret; exact ⟨rfl, rfl⟩)
      · simp only [Bool.true_and]
        go_enter Tryz.func48, Tryz.ntmps48
        go_wp2_with (first | (go_at_call 93; (with_reducible refine Calls.mono (rletter_calls _ _) ?_); rintro e w' ⟨rfl, rfl⟩) | (go_at_call 94; (with_reducible refine Calls.mono (rdigit_calls _ _) ?_); rintro e w' ⟨rfl, rfl⟩) | ((with_reducible refine wp_region_quiet_below (by kernel_rfl) (by kernel_rfl) ?_); (repeat (any_goals (first | (go_big_quiet_step ((first | (go_at_call 93; with_reducible exact reg_pure (rletter_calls _ _)) | (go_at_call 94; with_reducible exact reg_pure (rdigit_calls _ _))))) | (quiet_step ((first | (go_at_call 93; with_reducible exact reg_pure (rletter_calls _ _)) | (go_at_call 94; with_reducible exact reg_pure (rdigit_calls _ _))))) | (refine wpQuiet_step (fun K hK => ?_); go_simp; split <;> (refine hK _ ?_; clear hK K))))); all_goals (refine wpQuiet_nil ?_; intro _ hw'; obtain ⟨⟨dq, osq⟩, hw''⟩ := hw'; subst hw'')))
        clear hL
        go_loop [3, 4] (fun i _ => ∃ k : Nat, k ≤ l.length ∧ i = .int .i64 k ∧ RowKit.Hid (allB schByte (l.take k) = true)) (fun i _ => l.length - (intOf i).toNat)
        case atStart => exact ⟨0, Nat.zero_le _, rfl, rfl⟩
        case round =>
          obtain ⟨k, hk, rfl, hrel⟩ := hrel
          by_cases hlt : k < l.length
          · go_wp2_with (first | (go_at_call 93; (with_reducible refine Calls.mono (rletter_calls _ _) ?_); rintro e w' ⟨rfl, rfl⟩) | (go_at_call 94; (with_reducible refine Calls.mono (rdigit_calls _ _) ?_); rintro e w' ⟨rfl, rfl⟩) | ((with_reducible refine wp_region_quiet_below (by kernel_rfl) (by kernel_rfl) ?_); (repeat (any_goals (first | (go_big_quiet_step ((first | (go_at_call 93; with_reducible exact reg_pure (rletter_calls _ _)) | (go_at_call 94; with_reducible exact reg_pure (rdigit_calls _ _))))) | (quiet_step ((first | (go_at_call 93; with_reducible exact reg_pure (rletter_calls _ _)) | (go_at_call 94; with_reducible exact reg_pure (rdigit_calls _ _))))) | (refine wpQuiet_step (fun K hK => ?_); go_simp; split <;> (refine hK _ ?_; clear hK K))))); all_goals (refine wpQuiet_nil ?_; intro _ hw'; obtain ⟨⟨dq, osq⟩, hw''⟩ := hw'; subst hw'')))
            all_goals first
              | (refine ⟨⟨k + 1, by omega, by go_num, ?_⟩, by simp [intOf]; omega⟩
                 show allB schByte (l.take (k + 1)) = true
                 rw [allB_take _ l k hlt, hrel.out]
                 simp_all [schByte]
                 done)
              | (go_ret
                 refine ⟨ret_bool ?_, rfl⟩
                 rw [allB_false schByte l k hlt (by simp_all [schByte])])
              | (exfalso; simp_all; done)
          · have h2 := hrel.out
            rw [List.take_of_length_le (by omega)] at h2
            have H2 := Lib.hid h2
            clear h2
            go_wp2_with (first | ((with_reducible refine wp_region_quiet_below (by kernel_rfl) (by kernel_rfl) ?_); (repeat (any_goals (first | (go_big_quiet_step (fail)) | (quiet_step (fail)) | (refine wpQuiet_step (fun K hK => ?_); go_simp; split <;> (refine hK _ ?_; clear hK K))))); all_goals (refine wpQuiet_nil ?_; intro _ hw'; obtain ⟨⟨dq, osq⟩, hw''⟩ := hw'; subst hw'')))
            go_ret
            exact ⟨ret_bool H2.out.symm, rfl⟩
    · go_enter Tryz.func48, Tryz.ntmps48
      go_wp2_with (first | ((with_reducible refine wp_region_quiet_below (by kernel_rfl) (by kernel_rfl) ?_); (repeat (any_goals (first | (go_big_quiet_step (fail)) | (quiet_step (fail)) | (refine wpQuiet_step (fun K hK => ?_); go_simp; split <;> (refine hK _ ?_; clear hK K))))); all_goals (refine wpQuiet_nil ?_; intro _ hw'; obtain ⟨⟨dq, osq⟩, hw''⟩ := hw'; subst hw'')))
      all_goals (go_ret; exact ⟨ret_bool (by first | rfl | (simp [h1]; done)), rfl⟩)
  · go_enter Tryz.func48, Tryz.ntmps48
    go_wp2_with (first | ((with_reducible refine wp_region_quiet_below (by kernel_rfl) (by kernel_rfl) ?_); (repeat (any_goals (first | (go_big_quiet_step (fail)) | (quiet_step (fail)) | (refine wpQuiet_step (fun K hK => ?_); go_simp; split <;> (refine hK _ ?_; clear hK K))))); all_goals (refine wpQuiet_nil ?_; intro _ hw'; obtain ⟨⟨dq, osq⟩, hw''⟩ := hw'; subst hw'')))
    all_goals (go_ret; exact ⟨ret_bool (by cases l with | nil => rfl | cons b l => simp at h0), rfl⟩)
end Go.Proofs.YtbeaheicjopooaaGreatDoor
