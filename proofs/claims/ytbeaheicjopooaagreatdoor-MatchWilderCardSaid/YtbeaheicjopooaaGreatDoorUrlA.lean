/- What the small functions of package url answer: a byte's kinds, all bytes of a text, a scheme, a scheme's port; for every text below the model's bound. -/
import Derived.Test.YtbeaheicjopooaaGreatDoorProg
import Derived.Test.YtbeaheicjopooaaGreatDoorBase
import Derived.Test.YtbeaheicjopooaaGreatDoorPure
import Derived.Test.YtbeaheicjopooaaGreatDoorShelf
namespace Go.Proofs.YtbeaheicjopooaaGreatDoor
open Go.RowKit Go.Sort
attribute [local go_sem] get_mk mk_append mk_extract0 mk_extract_end mk_extract_cons empty_mk cell_grow frozen_grow size_grow

set_option maxHeartbeats 400000 in
theorem letter_calls (c : Int) (w : World) : Calls Tryz.prog 100 #[.int .u8 c] w fun e w' => e = .returned (.bool (isLetter c)) ∧ w = w' := by
  by_cases h : 97 ≤ c <;> by_cases h2 : c ≤ 122
  all_goals
    go_enter Tryz.func100, Tryz.ntmps100
    go_wp2
    go_ret
    exact ⟨by simp [isLetter, h, h2], rfl⟩
set_option maxHeartbeats 400000 in
theorem digit_calls (c : Int) (w : World) : Calls Tryz.prog 102 #[.int .u8 c] w fun e w' => e = .returned (.bool (isDigit c)) ∧ w = w' := by
  by_cases h : 48 ≤ c <;> by_cases h2 : c ≤ 57
  all_goals
    go_enter Tryz.func102, Tryz.ntmps102
    go_wp2
    go_ret
    exact ⟨by simp [isDigit, h, h2], rfl⟩
set_option maxHeartbeats 400000 in
theorem byteOf_calls (c : Int) (w : World) : Calls Tryz.prog 74 #[.int .u8 c] w fun e w' => e = .returned (.bool (pathByte c)) ∧ w = w' := by
  go_enter Tryz.func74, Tryz.ntmps74
  go_wp2_with (first | ((with_reducible refine wp_region_quiet_below (by kernel_rfl) (by kernel_rfl) ?_); (repeat (any_goals (first | (go_big_quiet_step (fail)) | (quiet_step (fail)) | (refine wpQuiet_step (fun K hK => ?_); go_simp; split <;> (refine hK _ ?_; clear hK K))))); all_goals (refine wpQuiet_nil ?_; intro _ hw'; obtain ⟨⟨dq, osq⟩, hw''⟩ := hw'; subst hw'')))
  all_goals (go_ret; exact ⟨ret_bool (by first | (simp_all [pathByte]; done) | (simp_all [pathByte]; intros; omega) | (rw [Bool.eq_iff_iff]; simp_all [pathByte]; intros; omega)), rfl⟩)
set_option maxHeartbeats 400000 in
theorem opq_calls (c : Int) (w : World) : Calls Tryz.prog 72 #[.int .u8 c] w fun e w' => e = .returned (.bool (opqByte c)) ∧ w = w' := by
  go_enter Tryz.func72, Tryz.ntmps72
  go_wp2_with (first | ((with_reducible refine wp_region_quiet_below (by kernel_rfl) (by kernel_rfl) ?_); (repeat (any_goals (first | (go_big_quiet_step (fail)) | (quiet_step (fail)) | (refine wpQuiet_step (fun K hK => ?_); go_simp; split <;> (refine hK _ ?_; clear hK K))))); all_goals (refine wpQuiet_nil ?_; intro _ hw'; obtain ⟨⟨dq, osq⟩, hw''⟩ := hw'; subst hw'')))
  all_goals (go_ret; exact ⟨ret_bool (by first | (simp_all [opqByte]; done) | (simp_all [opqByte]; intros; omega) | (rw [Bool.eq_iff_iff]; simp_all [opqByte]; intros; omega)), rfl⟩)
set_option maxHeartbeats 400000 in
theorem qry_calls (c : Int) (w : World) : Calls Tryz.prog 76 #[.int .u8 c] w fun e w' => e = .returned (.bool (qryByte c)) ∧ w = w' := by
  go_enter Tryz.func76, Tryz.ntmps76
  go_wp2_with (first | (go_at_call 74; (with_reducible refine Calls.mono (byteOf_calls _ _) ?_); rintro e w' ⟨rfl, rfl⟩) | ((with_reducible refine wp_region_quiet_below (by kernel_rfl) (by kernel_rfl) ?_); (repeat (any_goals (first | (go_big_quiet_step ((first | (go_at_call 74; with_reducible exact reg_pure (byteOf_calls _ _))))) | (quiet_step ((first | (go_at_call 74; with_reducible exact reg_pure (byteOf_calls _ _))))) | (refine wpQuiet_step (fun K hK => ?_); go_simp; split <;> (refine hK _ ?_; clear hK K))))); all_goals (refine wpQuiet_nil ?_; intro _ hw'; obtain ⟨⟨dq, osq⟩, hw''⟩ := hw'; subst hw'')))
  all_goals (go_ret; exact ⟨ret_bool (by first | (simp_all [qryByte]; done) | (simp_all [qryByte]; intros; omega) | (rw [Bool.eq_iff_iff]; simp_all [qryByte]; intros; omega)), rfl⟩)
set_option maxHeartbeats 400000 in
theorem sch_calls (c : Int) (w : World) : Calls Tryz.prog 101 #[.int .u8 c] w fun e w' => e = .returned (.bool (schByte c)) ∧ w = w' := by
  go_enter Tryz.func101, Tryz.ntmps101
  go_wp2_with (first | (go_at_call 100; (with_reducible refine Calls.mono (letter_calls _ _) ?_); rintro e w' ⟨rfl, rfl⟩) | (go_at_call 102; (with_reducible refine Calls.mono (digit_calls _ _) ?_); rintro e w' ⟨rfl, rfl⟩) | ((with_reducible refine wp_region_quiet_below (by kernel_rfl) (by kernel_rfl) ?_); (repeat (any_goals (first | (go_big_quiet_step ((first | (go_at_call 100; with_reducible exact reg_pure (letter_calls _ _)) | (go_at_call 102; with_reducible exact reg_pure (digit_calls _ _))))) | (quiet_step ((first | (go_at_call 100; with_reducible exact reg_pure (letter_calls _ _)) | (go_at_call 102; with_reducible exact reg_pure (digit_calls _ _))))) | (refine wpQuiet_step (fun K hK => ?_); go_simp; split <;> (refine hK _ ?_; clear hK K))))); all_goals (refine wpQuiet_nil ?_; intro _ hw'; obtain ⟨⟨dq, osq⟩, hw''⟩ := hw'; subst hw'')))
  all_goals (go_ret; exact ⟨ret_bool (by first | (simp_all [schByte]; done) | (simp_all [schByte]; intros; omega) | (rw [Bool.eq_iff_iff]; simp_all [schByte]; intros; omega)), rfl⟩)
set_option maxHeartbeats 400000 in
theorem hostb_calls (c : Int) (w : World) : Calls Tryz.prog 103 #[.int .u8 c] w fun e w' => e = .returned (.bool (hostByte c)) ∧ w = w' := by
  go_enter Tryz.func103, Tryz.ntmps103
  go_wp2_with (first | (go_at_call 100; (with_reducible refine Calls.mono (letter_calls _ _) ?_); rintro e w' ⟨rfl, rfl⟩) | (go_at_call 102; (with_reducible refine Calls.mono (digit_calls _ _) ?_); rintro e w' ⟨rfl, rfl⟩) | ((with_reducible refine wp_region_quiet_below (by kernel_rfl) (by kernel_rfl) ?_); (repeat (any_goals (first | (go_big_quiet_step ((first | (go_at_call 100; with_reducible exact reg_pure (letter_calls _ _)) | (go_at_call 102; with_reducible exact reg_pure (digit_calls _ _))))) | (quiet_step ((first | (go_at_call 100; with_reducible exact reg_pure (letter_calls _ _)) | (go_at_call 102; with_reducible exact reg_pure (digit_calls _ _))))) | (refine wpQuiet_step (fun K hK => ?_); go_simp; split <;> (refine hK _ ?_; clear hK K))))); all_goals (refine wpQuiet_nil ?_; intro _ hw'; obtain ⟨⟨dq, osq⟩, hw''⟩ := hw'; subst hw'')))
  all_goals (go_ret; exact ⟨ret_bool (by first | (simp_all [hostByte]; done) | (simp_all [hostByte]; intros; omega) | (rw [Bool.eq_iff_iff]; simp_all [hostByte]; intros; omega)), rfl⟩)

set_option maxRecDepth 100000 in
set_option maxHeartbeats 400000 in
theorem all_any (l : List UInt8) (g : FuncId) (p : Int → Bool) (w : World) (hs : l.length ≤ 9223372036854775807)
    (eg : ∀ args w, (callFunc g args).run Tryz.prog w = .ok (.enter g args) w)
    (hp : ∀ c W, Calls Tryz.prog g #[.int .u8 c] W fun e w' => e = .returned (.bool (p c)) ∧ W = w') :
    Calls Tryz.prog 71 #[.string ⟨l.toArray⟩, .func (.func g) #[] #[]] w fun e w' => e = .returned (.bool (allB p l)) ∧ w = w' := by
  have Hp := Lib.hid hp
  clear hp
  go_enter Tryz.func71, Tryz.ntmps71
  go_wp2
  go_loop [8] (fun i => ∃ k : Nat, k ≤ l.length ∧ i = .int .i64 k ∧ RowKit.Hid (allB p (l.take k) = true)) (fun i => l.length - (intOf i).toNat)
  case atStart => exact ⟨0, Nat.zero_le _, rfl, rfl⟩
  case round =>
    obtain ⟨k, hk, rfl, hrel⟩ := hrel
    by_cases hlt : k < l.length
    · go_wp2_with (go_at_fn g; refine (Hp.out _ _).mono ?_; rintro e w' ⟨rfl, rfl⟩)
      · go_ret
        rename_i h
        exact ⟨by rw [allB_false p l k hlt (by simpa using h)]; rfl, rfl⟩
      · rename_i h
        refine ⟨⟨k + 1, by omega, by go_num, ?_⟩, by simp [intOf]; omega⟩
        show allB p (l.take (k + 1)) = true
        rw [allB_take p l k hlt, hrel.out]
        simpa using h
    · go_wp2
      go_ret
      have : k = l.length := by omega
      have h2 := hrel.out
      rw [List.take_of_length_le (by omega)] at h2
      exact ⟨by rw [h2]; rfl, rfl⟩
/-- Which bytes a function value that is handed to 'all' lets be. -/
def predOf (g : Nat) : Int → Bool :=
  if g = 101 then schByte else if g = 103 then hostByte else if g = 74 then pathByte else if g = 72 then opqByte else if g = 76 then qryByte else isDigit
theorem pred_sch : predOf 101 = schByte := rfl
theorem pred_host : predOf 103 = hostByte := rfl
theorem pred_path : predOf 74 = pathByte := rfl
theorem pred_opq : predOf 72 = opqByte := rfl
theorem pred_qry : predOf 76 = qryByte := rfl
theorem pred_dig : predOf 102 = isDigit := rfl
theorem all_by (l : List UInt8) (g : Nat) (w : World) (hs : l.length ≤ 9223372036854775807) (hg : g ∈ [101, 103, 74, 72, 76, 102]) :
    Calls Tryz.prog 71 #[.string ⟨l.toArray⟩, .func (.func g) #[] #[]] w fun e w' => e = .returned (.bool (allB (predOf g) l)) ∧ w = w' := by
  simp only [List.mem_cons, List.not_mem_nil, or_false] at hg
  rcases hg with rfl | rfl | rfl | rfl | rfl | rfl
  · exact all_any l _ schByte w hs (enters_of Tryz.func101 (by kernel_rfl) rfl) sch_calls
  · exact all_any l _ hostByte w hs (enters_of Tryz.func103 (by kernel_rfl) rfl) hostb_calls
  · exact all_any l _ pathByte w hs (enters_of Tryz.func74 (by kernel_rfl) rfl) byteOf_calls
  · exact all_any l _ opqByte w hs (enters_of Tryz.func72 (by kernel_rfl) rfl) opq_calls
  · exact all_any l _ qryByte w hs (enters_of Tryz.func76 (by kernel_rfl) rfl) qry_calls
  · exact all_any l _ isDigit w hs (enters_of Tryz.func102 (by kernel_rfl) rfl) digit_calls
attribute [local go_sem] pred_sch pred_host pred_path pred_opq pred_qry pred_dig
set_option maxHeartbeats 400000 in
theorem default_calls (l : List UInt8) (w : World) : Calls Tryz.prog 56 #[.string ⟨l.toArray⟩] w fun e w' => e = .returned (.int .i64 (defPort l)) ∧ w = w' := by
  go_enter Tryz.func56, Tryz.ntmps56
  go_wp2_with (first | ((with_reducible refine wp_region_quiet_below (by kernel_rfl) (by kernel_rfl) ?_); (repeat (any_goals (first | (go_big_quiet_step (fail)) | (quiet_step (fail)) | (refine wpQuiet_step (fun K hK => ?_); go_simp; split <;> (refine hK _ ?_; clear hK K))))); all_goals (refine wpQuiet_nil ?_; intro _ hw'; obtain ⟨⟨dq, osq⟩, hw''⟩ := hw'; subst hw'')))
  all_goals (go_ret; exact ⟨ret_int (by first | (simp_all [defPort]; done) | (simp_all [defPort]; intros; omega) | (rw [Bool.eq_iff_iff]; simp_all [defPort]; intros; omega)), rfl⟩)
set_option maxHeartbeats 400000 in
theorem scheme_calls (l : List UInt8) (w : World) (hs : l.length ≤ 9223372036854775807) : Calls Tryz.prog 70 #[.string ⟨l.toArray⟩] w fun e w' => e = .returned (.bool (schemeB l)) ∧ w = w' := by
  cases l with
  | nil =>
    go_enter Tryz.func70, Tryz.ntmps70
    go_wp2_with (first | (go_at_call 100; (with_reducible refine Calls.mono (letter_calls _ _) ?_); rintro e w' ⟨rfl, rfl⟩) | (go_at_call 71; (with_reducible refine Calls.mono (all_by _ _ _ (by first | (with_reducible assumption) | omega | (simp; done) | (simp; omega)) (by decide)) ?_); rintro e w' ⟨rfl, rfl⟩) | ((with_reducible refine wp_region_quiet_below (by kernel_rfl) (by kernel_rfl) ?_); (repeat (any_goals (first | (go_big_quiet_step ((first | (go_at_call 100; with_reducible exact reg_pure (letter_calls _ _)) | (go_at_call 71; with_reducible exact reg_pure (all_by _ _ _ (by first | (with_reducible assumption) | omega | (simp; done) | (simp; omega)) (by decide)))))) | (quiet_step ((first | (go_at_call 100; with_reducible exact reg_pure (letter_calls _ _)) | (go_at_call 71; with_reducible exact reg_pure (all_by _ _ _ (by first | (with_reducible assumption) | omega | (simp; done) | (simp; omega)) (by decide)))))) | (refine wpQuiet_step (fun K hK => ?_); go_simp; split <;> (refine hK _ ?_; clear hK K))))); all_goals (refine wpQuiet_nil ?_; intro _ hw'; obtain ⟨⟨dq, osq⟩, hw''⟩ := hw'; subst hw'')))
    all_goals (go_ret; exact ⟨ret_bool (by first | (simp_all [schemeB]; done) | (simp_all [schemeB]; intros; omega) | (rw [Bool.eq_iff_iff]; simp_all [schemeB]; intros; omega)), rfl⟩)
  | cons b l =>
    go_enter Tryz.func70, Tryz.ntmps70
    go_wp2_with (first | (go_at_call 100; (with_reducible refine Calls.mono (letter_calls _ _) ?_); rintro e w' ⟨rfl, rfl⟩) | (go_at_call 71; (with_reducible refine Calls.mono (all_by _ _ _ (by first | (with_reducible assumption) | omega | (simp; done) | (simp; omega)) (by decide)) ?_); rintro e w' ⟨rfl, rfl⟩) | ((with_reducible refine wp_region_quiet_below (by kernel_rfl) (by kernel_rfl) ?_); (repeat (any_goals (first | (go_big_quiet_step ((first | (go_at_call 100; with_reducible exact reg_pure (letter_calls _ _)) | (go_at_call 71; with_reducible exact reg_pure (all_by _ _ _ (by first | (with_reducible assumption) | omega | (simp; done) | (simp; omega)) (by decide)))))) | (quiet_step ((first | (go_at_call 100; with_reducible exact reg_pure (letter_calls _ _)) | (go_at_call 71; with_reducible exact reg_pure (all_by _ _ _ (by first | (with_reducible assumption) | omega | (simp; done) | (simp; omega)) (by decide)))))) | (refine wpQuiet_step (fun K hK => ?_); go_simp; split <;> (refine hK _ ?_; clear hK K))))); all_goals (refine wpQuiet_nil ?_; intro _ hw'; obtain ⟨⟨dq, osq⟩, hw''⟩ := hw'; subst hw'')))
    all_goals (go_ret; exact ⟨ret_bool (by first | (simp_all [schemeB]; done) | (simp_all [schemeB]; intros; omega) | (rw [Bool.eq_iff_iff]; simp_all [schemeB]; intros; omega)), rfl⟩)
end Go.Proofs.YtbeaheicjopooaaGreatDoor
