/- What the reference answers of joined texts' kinds and of folders; texts of at most 100000 bytes. -/
import Derived.Test.YtbeaheicjopooaaGreatDoorProg
import Derived.Test.YtbeaheicjopooaaGreatDoorRParse3
import Derived.Test.YtbeaheicjopooaaGreatDoorPureG
namespace Go.Proofs.YtbeaheicjopooaaGreatDoor
open Go.RowKit Go.Sort
attribute [local go_sem] get_mk mk_append mk_extract0 mk_extract_end mk_extract_cons empty_mk cell_grow frozen_grow size_grow
theorem prefix_take (l m : List UInt8) : Lib.hasPrefix l m = (decide (m.length ≤ l.length) && l.take m.length == m) := by
  unfold Lib.hasPrefix
  rw [Bool.eq_iff_iff, List.isPrefixOf_iff_prefix]
  simp only [Bool.and_eq_true, decide_eq_true_eq, beq_iff_eq]
  constructor
  · intro h
    exact ⟨h.length_le, (List.prefix_iff_eq_take.1 h).symm⟩
  · rintro ⟨_, h⟩
    exact List.prefix_iff_eq_take.2 h.symm
set_option maxHeartbeats 1000000 in
theorem begins_calls (l m : List UInt8) (w : World) (_h1 : l.length ≤ 1000000) (_h2 : m.length ≤ 1000000) :
    Calls Tryz.prog 50 #[.string ⟨l.toArray⟩, .string ⟨m.toArray⟩] w fun e w' => e = .returned (.bool (Lib.hasPrefix l m)) ∧ w = w' := by
  rw [prefix_take]
  by_cases h : m.length ≤ l.length
  · have hi : (m.length : Int) ≤ l.length := by omega
    go_enter Tryz.func50, Tryz.ntmps50
    go_wp2_with (first | ((with_reducible refine wp_region_quiet_below (by kernel_rfl) (by kernel_rfl) ?_); (repeat (any_goals (first | (go_big_quiet_step (fail)) | (quiet_step (fail)) | (refine wpQuiet_step (fun K hK => ?_); go_simp; split <;> (refine hK _ ?_; clear hK K))))); all_goals (refine wpQuiet_nil ?_; intro _ hw'; obtain ⟨⟨dq, osq⟩, hw''⟩ := hw'; subst hw'')))
    go_ret
    exact ⟨ret_bool (by simp [h]), rfl⟩
  · have hi : ¬ (m.length : Int) ≤ l.length := by omega
    go_enter Tryz.func50, Tryz.ntmps50
    go_wp2_with (first | ((with_reducible refine wp_region_quiet_below (by kernel_rfl) (by kernel_rfl) ?_); (repeat (any_goals (first | (go_big_quiet_step (fail)) | (quiet_step (fail)) | (refine wpQuiet_step (fun K hK => ?_); go_simp; split <;> (refine hK _ ?_; clear hK K))))); all_goals (refine wpQuiet_nil ?_; intro _ hw'; obtain ⟨⟨dq, osq⟩, hw''⟩ := hw'; subst hw'')))
    go_ret
    exact ⟨ret_bool (by simp [h]), rfl⟩
set_option maxRecDepth 100000 in
set_option maxHeartbeats 1000000 in
theorem folder6_calls (l : List UInt8) (w : World) (hs : l.length ≤ 1000000) :
    Calls Tryz.prog 43 #[.string ⟨l.toArray⟩] w fun e w' => e = .returned (.string ⟨(folderL l).toArray⟩) ∧ w = w' := by
  unfold folderL
  go_enter Tryz.func43, Tryz.ntmps43
  go_wp2_with fail
  go_loop [3, 4] (fun n i => ∃ k : Nat, k ≤ l.length ∧ i = .int .i64 k ∧ n = .int .i64 (lastN (l.take k))) (fun _ i => l.length - (intOf i).toNat)
  case atStart => exact ⟨0, Nat.zero_le _, rfl, rfl⟩
  case round =>
    obtain ⟨k, hk, rfl, rfl⟩ := hrel
    by_cases hlt : k < l.length
    · have hs := lastN_take l k hlt
      have hlk := lastN_le (l.take k)
      rw [List.length_take] at hlk
      by_cases hb : l[k] = 47
      · rw [if_pos hb] at hs
        have hbb : ((l[k].toNat : Int) == 47) = true := by rw [hb]; rfl
        have HS := Lib.hid hs
        clear hs hb
        go_wp2_with (first | ((with_reducible refine wp_region_quiet_below (by kernel_rfl) (by kernel_rfl) ?_); (repeat (any_goals (first | (go_big_quiet_step (fail)) | (quiet_step (fail)) | (refine wpQuiet_step (fun K hK => ?_); go_simp; split <;> (refine hK _ ?_; clear hK K))))); all_goals (refine wpQuiet_nil ?_; intro _ hw'; obtain ⟨⟨dq, osq⟩, hw''⟩ := hw'; subst hw'')))
        all_goals exact ⟨⟨k + 1, by omega, by go_num, by rw [HS.out]; go_num⟩, by simp [intOf]; omega⟩
      · rw [if_neg hb] at hs
        have hbb : ((l[k].toNat : Int) == 47) = false := by
          rw [beq_eq_false_iff_ne]
          intro e
          apply hb
          apply UInt8.toNat.inj
          show l[k].toNat = 47
          omega
        have HS := Lib.hid hs
        clear hs hb
        go_wp2_with (first | ((with_reducible refine wp_region_quiet_below (by kernel_rfl) (by kernel_rfl) ?_); (repeat (any_goals (first | (go_big_quiet_step (fail)) | (quiet_step (fail)) | (refine wpQuiet_step (fun K hK => ?_); go_simp; split <;> (refine hK _ ?_; clear hK K))))); all_goals (refine wpQuiet_nil ?_; intro _ hw'; obtain ⟨⟨dq, osq⟩, hw''⟩ := hw'; subst hw'')))
        all_goals exact ⟨⟨k + 1, by omega, by go_num, by rw [HS.out]⟩, by simp [intOf]; omega⟩
    · obtain rfl : k = l.length := by omega
      have hln := lastN_le l
      rw [List.take_length]
      generalize hLN : lastN l = ln at *
      have HLN := Lib.hid hLN
      clear hLN
      go_wp2_with fail
      go_ret
      exact ⟨ret_string (by rw [HLN.out]), rfl⟩
end Go.Proofs.YtbeaheicjopooaaGreatDoor
