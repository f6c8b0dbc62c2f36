/- What the reference's Trim answers; texts of at most a million bytes. -/
import Derived.Test.YtbeaheicjopooaaGreatDoorProg
import Derived.Test.YtbeaheicjopooaaGreatDoorEnv
import Derived.Test.YtbeaheicjopooaaGreatDoorFold
namespace Go.Proofs.YtbeaheicjopooaaGreatDoor
open Go.RowKit Go.Sort
attribute [local go_sem] get_mk mk_append mk_extract0 mk_extract_end mk_extract_cons empty_mk cell_grow frozen_grow size_grow
attribute [local go_sem] mk_extract
def blankB (c : Int) : Bool := c == 9 || c == 10 || c == 12 || c == 13 || c == 32
theorem blank_calls (c : Int) (w : World) : Calls Tryz.prog 90 #[.int .u8 c] w fun e w' => e = .returned (.bool (blankB c)) ∧ w = w' := by
  go_enter Tryz.func90, Tryz.ntmps90
  go_wp2_with (first | ((with_reducible refine wp_region_quiet_below (by kernel_rfl) (by kernel_rfl) ?_); (repeat (any_goals (first | (go_big_quiet_step (fail)) | (quiet_step (fail)) | (refine wpQuiet_step (fun K hK => ?_); go_simp; split <;> (refine hK _ ?_; clear hK K))))); all_goals (refine wpQuiet_nil ?_; intro _ hw'; obtain ⟨⟨dq, osq⟩, hw''⟩ := hw'; subst hw'')))
  all_goals (go_ret; exact ⟨ret_bool (by first | (simp_all [blankB]; done) | (simp_all [blankB]; intros; omega) | (rw [Bool.eq_iff_iff]; simp_all [blankB]; intros; omega)), rfl⟩)
theorem blank_set (b : UInt8) : [9, 10, 12, 13, 32].contains b = blankB (b.toNat : Int) := by
  have e : ∀ k : Nat, k < 256 → ((b.toNat : Int) == (k : Int)) = (b == UInt8.ofNat k) := by
    intro k hk
    rw [Bool.eq_iff_iff, beq_iff_eq, beq_iff_eq]
    constructor
    · intro h
      apply UInt8.toNat.inj
      rw [UInt8.toNat_ofNat_of_lt' (by simpa using hk)]
      omega
    · intro h
      rw [h, UInt8.toNat_ofNat_of_lt' (by simpa using hk)]
  have e1 := e 9 (by omega)
  have e2 := e 10 (by omega)
  have e3 := e 12 (by omega)
  have e4 := e 13 (by omega)
  have e5 := e 32 (by omega)
  unfold blankB
  simp only [List.contains_cons, List.contains_nil, Bool.or_false]
  rw [show ((b.toNat : Int) == 9) = _ from e1, show ((b.toNat : Int) == 10) = _ from e2, show ((b.toNat : Int) == 12) = _ from e3, show ((b.toNat : Int) == 13) = _ from e4, show ((b.toNat : Int) == 32) = _ from e5]
  simp only [Bool.or_assoc]
  rfl
theorem trimL_all (l : List UInt8) (h : ∀ j (h : j < l.length), blankB (l[j].toNat : Int) = true) : trimL l = [] := by
  unfold trimL Lib.trimS
  rw [Lib.trimRightS_take l _ 0 (Nat.zero_le _) (fun j b _ hb => by
    obtain ⟨hj, rfl⟩ := List.getElem?_eq_some_iff.1 hb
    rw [blank_set]; exact h j hj) (fun b h0 _ => absurd h0 (Nat.lt_irrefl 0))]
  rfl
theorem trimL_at (l : List UInt8) (f t : Nat) (hft : f < t) (ht : t ≤ l.length) (h1 : ∀ j (h : j < l.length), j < f → blankB (l[j].toNat : Int) = true) (h2 : blankB ((l[f]'(by omega)).toNat : Int) = false)
    (h3 : ∀ j (h : j < l.length), t ≤ j → blankB (l[j].toNat : Int) = true) (h4 : blankB ((l[t - 1]'(by omega)).toNat : Int) = false) : trimL l = (l.take t).drop f := by
  unfold trimL Lib.trimS
  rw [Lib.trimRightS_take l _ t ht (fun j b hj hb => by
    obtain ⟨hj2, rfl⟩ := List.getElem?_eq_some_iff.1 hb
    rw [blank_set]; exact h3 j hj2 hj) (fun b _ hb => by
    obtain ⟨hj2, rfl⟩ := List.getElem?_eq_some_iff.1 hb
    rw [blank_set]; exact h4)]
  rw [Lib.trimLeftS_drop _ _ f (by rw [List.length_take]; omega) (fun j b hj hb => by
    rw [List.getElem?_take, if_pos (by omega)] at hb
    obtain ⟨hj2, rfl⟩ := List.getElem?_eq_some_iff.1 hb
    rw [blank_set]; exact h1 j hj2 hj) (fun b hb => by
    rw [List.getElem?_take, if_pos (by omega)] at hb
    obtain ⟨hj2, rfl⟩ := List.getElem?_eq_some_iff.1 hb
    rw [blank_set]; exact h2)]
set_option maxRecDepth 100000 in
set_option maxHeartbeats 1000000 in
theorem rtrim_calls (l : List UInt8) (w : World) (hs : l.length ≤ 1000000) :
    Calls Tryz.prog 41 #[.string ⟨l.toArray⟩] w fun e w' => e = .returned (.string ⟨(trimL l).toArray⟩) ∧ w = w' := by
  go_enter Tryz.func41, Tryz.ntmps41
  go_wp2_with fail
  go_loop [3] (fun i => ∃ k : Nat, k ≤ l.length ∧ i = .int .i64 k ∧ RowKit.Hid (∀ j (h : j < l.length), j < k → blankB (l[j].toNat : Int) = true)) (fun i => l.length - (intOf i).toNat)
  case atStart => exact ⟨0, Nat.zero_le _, rfl, fun j _ h => absurd h (Nat.not_lt_zero _)⟩
  case round =>
    obtain ⟨k, hk, rfl, hrel⟩ := hrel
    by_cases hlt : k < l.length
    · cases hb : blankB (l[k].toNat : Int)
      · go_wp2_with (first | (go_at_call 90; (with_reducible refine Calls.mono (blank_calls _ _) ?_); rintro e w' ⟨rfl, rfl⟩) | ((with_reducible refine wp_region_quiet_below (by kernel_rfl) (by kernel_rfl) ?_); (repeat (any_goals (first | (go_big_quiet_step ((first | (go_at_call 90; with_reducible exact reg_pure (blank_calls _ _))))) | (quiet_step ((first | (go_at_call 90; with_reducible exact reg_pure (blank_calls _ _))))) | (refine wpQuiet_step (fun K hK => ?_); go_simp; split <;> (refine hK _ ?_; clear hK K))))); all_goals (refine wpQuiet_nil ?_; intro _ hw'; obtain ⟨⟨dq, osq⟩, hw''⟩ := hw'; subst hw'')))
        have HB := Lib.hid hb
        clear hb
        go_loop [4] (fun i => ∃ t : Nat, k < t ∧ t ≤ l.length ∧ i = .int .i64 t ∧ RowKit.Hid (∀ j (h : j < l.length), t ≤ j → blankB (l[j].toNat : Int) = true)) (fun i => (intOf i).toNat)
        case atStart => exact ⟨l.length, hlt, Nat.le_refl _, rfl, fun j h hj => absurd hj (by omega)⟩
        case round =>
          obtain ⟨t, hkt, htl, rfl, hrel2⟩ := hrel
          obtain ⟨m, rfl⟩ : ∃ m, t = m + 1 := ⟨t - 1, by omega⟩
          cases hb2 : blankB ((l[m]'(by omega)).toNat : Int)
          · go_wp2_with (first | (go_at_call 90; (with_reducible refine Calls.mono (blank_calls _ _) ?_); rintro e w' ⟨rfl, rfl⟩) | ((with_reducible refine wp_region_quiet_below (by kernel_rfl) (by kernel_rfl) ?_); (repeat (any_goals (first | (go_big_quiet_step ((first | (go_at_call 90; with_reducible exact reg_pure (blank_calls _ _))))) | (quiet_step ((first | (go_at_call 90; with_reducible exact reg_pure (blank_calls _ _))))) | (refine wpQuiet_step (fun K hK => ?_); go_simp; split <;> (refine hK _ ?_; clear hK K))))); all_goals (refine wpQuiet_nil ?_; intro _ hw'; obtain ⟨⟨dq, osq⟩, hw''⟩ := hw'; subst hw'')))
            go_ret
            exact ⟨ret_string (trimL_at l k (m + 1) hkt htl hrel.out HB.out hrel2.out (by simpa using hb2)).symm, rfl⟩
          · go_wp2_with (first | (go_at_call 90; (with_reducible refine Calls.mono (blank_calls _ _) ?_); rintro e w' ⟨rfl, rfl⟩) | ((with_reducible refine wp_region_quiet_below (by kernel_rfl) (by kernel_rfl) ?_); (repeat (any_goals (first | (go_big_quiet_step ((first | (go_at_call 90; with_reducible exact reg_pure (blank_calls _ _))))) | (quiet_step ((first | (go_at_call 90; with_reducible exact reg_pure (blank_calls _ _))))) | (refine wpQuiet_step (fun K hK => ?_); go_simp; split <;> (refine hK _ ?_; clear hK K))))); all_goals (refine wpQuiet_nil ?_; intro _ hw'; obtain ⟨⟨dq, osq⟩, hw''⟩ := hw'; subst hw'')))
            have hkm : k < m := by
              refine Nat.lt_of_le_of_ne (by omega) (fun e => ?_)
              subst e
              rw [HB.out] at hb2
              cases hb2
            refine ⟨⟨m, hkm, by omega, rfl, ?_⟩, by simp [intOf]⟩
            intro j h hj
            by_cases e : j = m
            · subst e; exact hb2
            · exact hrel2.out j h (by omega)
      · go_wp2_with (first | (go_at_call 90; (with_reducible refine Calls.mono (blank_calls _ _) ?_); rintro e w' ⟨rfl, rfl⟩) | ((with_reducible refine wp_region_quiet_below (by kernel_rfl) (by kernel_rfl) ?_); (repeat (any_goals (first | (go_big_quiet_step ((first | (go_at_call 90; with_reducible exact reg_pure (blank_calls _ _))))) | (quiet_step ((first | (go_at_call 90; with_reducible exact reg_pure (blank_calls _ _))))) | (refine wpQuiet_step (fun K hK => ?_); go_simp; split <;> (refine hK _ ?_; clear hK K))))); all_goals (refine wpQuiet_nil ?_; intro _ hw'; obtain ⟨⟨dq, osq⟩, hw''⟩ := hw'; subst hw'')))
        refine ⟨⟨k + 1, by omega, by go_num, ?_⟩, by simp [intOf]; omega⟩
        intro j h hj
        by_cases e : j = k
        · subst e; exact hb
        · exact hrel.out j h (by omega)
    · obtain rfl : k = l.length := by omega
      have HA := Lib.hid (trimL_all l (fun j h => hrel.out j h h))
      go_wp2_with (first | (go_at_call 90; (with_reducible refine Calls.mono (blank_calls _ _) ?_); rintro e w' ⟨rfl, rfl⟩) | ((with_reducible refine wp_region_quiet_below (by kernel_rfl) (by kernel_rfl) ?_); (repeat (any_goals (first | (go_big_quiet_step ((first | (go_at_call 90; with_reducible exact reg_pure (blank_calls _ _))))) | (quiet_step ((first | (go_at_call 90; with_reducible exact reg_pure (blank_calls _ _))))) | (refine wpQuiet_step (fun K hK => ?_); go_simp; split <;> (refine hK _ ?_; clear hK K))))); all_goals (refine wpQuiet_nil ?_; intro _ hw'; obtain ⟨⟨dq, osq⟩, hw''⟩ := hw'; subst hw'')))
      go_loop [4] (fun i => i = .int .i64 (l.length : Int)) (fun _ => 0)
      case atStart => rfl
      case round =>
        subst hrel
        go_wp2_with (first | (go_at_call 90; (with_reducible refine Calls.mono (blank_calls _ _) ?_); rintro e w' ⟨rfl, rfl⟩) | ((with_reducible refine wp_region_quiet_below (by kernel_rfl) (by kernel_rfl) ?_); (repeat (any_goals (first | (go_big_quiet_step ((first | (go_at_call 90; with_reducible exact reg_pure (blank_calls _ _))))) | (quiet_step ((first | (go_at_call 90; with_reducible exact reg_pure (blank_calls _ _))))) | (refine wpQuiet_step (fun K hK => ?_); go_simp; split <;> (refine hK _ ?_; clear hK K))))); all_goals (refine wpQuiet_nil ?_; intro _ hw'; obtain ⟨⟨dq, osq⟩, hw''⟩ := hw'; subst hw'')))
        go_ret
        exact ⟨ret_string (by rw [HA.out]), rfl⟩
end Go.Proofs.YtbeaheicjopooaaGreatDoor
