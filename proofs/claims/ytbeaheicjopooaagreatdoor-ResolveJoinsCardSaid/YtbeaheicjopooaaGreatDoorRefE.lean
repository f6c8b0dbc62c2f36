/- What the reference answers of ports and of cutting; texts of at most a million bytes. -/
import Derived.Test.YtbeaheicjopooaaGreatDoorProg
import Derived.Test.YtbeaheicjopooaaGreatDoorPure
import Derived.Test.YtbeaheicjopooaaGreatDoorRefA
import Derived.Test.YtbeaheicjopooaaGreatDoorEnv
namespace Go.Proofs.YtbeaheicjopooaaGreatDoor
open Go.RowKit Go.Sort
attribute [local go_sem] get_mk mk_append mk_extract0 mk_extract_end mk_extract_cons empty_mk cell_grow frozen_grow size_grow
/-- The number that a port's text tells, or -1. -/
def rportL (l : List UInt8) : Int := if l.length < 1 ∨ 5 < l.length ∨ allB isDigit l = false ∨ 65535 < digitsL l then -1 else (digitsL l : Int)
theorem digitsL_take (l : List UInt8) (k : Nat) (h : k < l.length) : digitsL (l.take (k + 1)) = digitsL (l.take k) * 10 + (l[k].toNat - 48) := by
  unfold digitsL
  rw [List.take_succ_eq_append_getElem h, List.foldl_append]
  rfl
theorem digitsL_bound (l : List UInt8) (k : Nat) (hk : k ≤ 5) (h : allB isDigit (l.take k) = true) : digitsL (l.take k) < 100000 := by
  suffices hh : ∀ (m : List UInt8) (acc : Nat), allB isDigit m = true → m.foldl (fun n b => n * 10 + (b.toNat - 48)) acc < (acc + 1) * 10 ^ m.length by
    have := hh (l.take k) 0 h
    have h2 : (l.take k).length ≤ 5 := by rw [List.length_take]; omega
    have h3 : 10 ^ (l.take k).length ≤ 10 ^ 5 := Nat.pow_le_pow_right (by omega) h2
    unfold digitsL
    omega
  intro m
  induction m with
  | nil => intro acc _; simp
  | cons b m ih =>
    intro acc h
    simp only [allB, Bool.and_eq_true] at h
    have hd : 48 ≤ b.toNat ∧ b.toNat ≤ 57 := by
      have := h.1
      simp [isDigit] at this
      omega
    have := ih (acc * 10 + (b.toNat - 48)) h.2
    simp only [List.foldl_cons, List.length_cons, Nat.pow_succ]
    refine Nat.lt_of_lt_of_le this ?_
    rw [Nat.mul_comm (10 ^ m.length) 10, ← Nat.mul_assoc]
    exact Nat.mul_le_mul_right _ (by omega)
set_option maxRecDepth 100000 in
set_option maxHeartbeats 1000000 in
theorem rport_calls (l : List UInt8) (w : World) :
    Calls Tryz.prog 118 #[.string ⟨l.toArray⟩] w fun e w' => e = .returned (.int .i64 (rportL l)) ∧ w = w' := by
  by_cases h0 : l.length < 1 ∨ 5 < l.length
  · have hr : rportL l = -1 := by unfold rportL; rw [if_pos (by omega)]
    rw [hr]
    clear hr
    by_cases h1 : (l.length : Int) < 1
    · go_enter Tryz.func118, Tryz.ntmps118
      go_wp2_with (first | (go_at_call 94; (with_reducible refine Calls.mono (rdigit_calls _ _) ?_); rintro e w' ⟨rfl, rfl⟩) | ((with_reducible refine wp_region_quiet_below (by kernel_rfl) (by kernel_rfl) ?_); (repeat (any_goals (first | (go_big_quiet_step ((first | (go_at_call 94; with_reducible exact reg_pure (rdigit_calls _ _))))) | (quiet_step ((first | (go_at_call 94; with_reducible exact reg_pure (rdigit_calls _ _))))) | (refine wpQuiet_step (fun K hK => ?_); go_simp; split <;> (refine hK _ ?_; clear hK K))))); all_goals (refine wpQuiet_nil ?_; intro _ hw'; obtain ⟨⟨dq, osq⟩, hw''⟩ := hw'; subst hw'')))
      all_goals (go_ret; exact ⟨rfl, rfl⟩)
    · have h2 : (5 : Int) < l.length := by omega
      go_enter Tryz.func118, Tryz.ntmps118
      go_wp2_with (first | (go_at_call 94; (with_reducible refine Calls.mono (rdigit_calls _ _) ?_); rintro e w' ⟨rfl, rfl⟩) | ((with_reducible refine wp_region_quiet_below (by kernel_rfl) (by kernel_rfl) ?_); (repeat (any_goals (first | (go_big_quiet_step ((first | (go_at_call 94; with_reducible exact reg_pure (rdigit_calls _ _))))) | (quiet_step ((first | (go_at_call 94; with_reducible exact reg_pure (rdigit_calls _ _))))) | (refine wpQuiet_step (fun K hK => ?_); go_simp; split <;> (refine hK _ ?_; clear hK K))))); all_goals (refine wpQuiet_nil ?_; intro _ hw'; obtain ⟨⟨dq, osq⟩, hw''⟩ := hw'; subst hw'')))
      all_goals (go_ret; exact ⟨rfl, rfl⟩)
  · have g0 : ¬ (l.length : Int) < 1 := by omega
    have g1 : ¬ (5 : Int) < l.length := by omega
    go_enter Tryz.func118, Tryz.ntmps118
    go_wp2_with (first | (go_at_call 94; (with_reducible refine Calls.mono (rdigit_calls _ _) ?_); rintro e w' ⟨rfl, rfl⟩) | ((with_reducible refine wp_region_quiet_below (by kernel_rfl) (by kernel_rfl) ?_); (repeat (any_goals (first | (go_big_quiet_step ((first | (go_at_call 94; with_reducible exact reg_pure (rdigit_calls _ _))))) | (quiet_step ((first | (go_at_call 94; with_reducible exact reg_pure (rdigit_calls _ _))))) | (refine wpQuiet_step (fun K hK => ?_); go_simp; split <;> (refine hK _ ?_; clear hK K))))); all_goals (refine wpQuiet_nil ?_; intro _ hw'; obtain ⟨⟨dq, osq⟩, hw''⟩ := hw'; subst hw'')))
    go_loop [3, 4] (fun n i => ∃ k : Nat, k ≤ l.length ∧ i = .int .i64 k ∧ n = .int .i64 (digitsL (l.take k)) ∧ RowKit.Hid (allB isDigit (l.take k) = true)) (fun _ i => l.length - (intOf i).toNat)
    case atStart => exact ⟨0, Nat.zero_le _, rfl, rfl, rfl⟩
    case round =>
      obtain ⟨k, hk, rfl, rfl, hrel⟩ := hrel
      have hb := digitsL_bound l k (by omega) hrel.out
      by_cases hlt : k < l.length
      · have hs := digitsL_take l k hlt
        have HS := Lib.hid hs
        clear hs
        cases hd : isDigit (l[k].toNat : Int)
        · have HD := Lib.hid hd
          go_wp2_with (first | (go_at_call 94; (with_reducible refine Calls.mono (rdigit_calls _ _) ?_); rintro e w' ⟨rfl, rfl⟩) | ((with_reducible refine wp_region_quiet_below (by kernel_rfl) (by kernel_rfl) ?_); (repeat (any_goals (first | (go_big_quiet_step ((first | (go_at_call 94; with_reducible exact reg_pure (rdigit_calls _ _))))) | (quiet_step ((first | (go_at_call 94; with_reducible exact reg_pure (rdigit_calls _ _))))) | (refine wpQuiet_step (fun K hK => ?_); go_simp; split <;> (refine hK _ ?_; clear hK K))))); all_goals (refine wpQuiet_nil ?_; intro _ hw'; obtain ⟨⟨dq, osq⟩, hw''⟩ := hw'; subst hw'')))
          go_ret
          refine ⟨ret_int ?_, rfl⟩
          unfold rportL
          rw [if_pos (.inr (.inr (.inl (allB_false isDigit l k hlt HD.out))))]
        · have hd2 : 48 ≤ (l[k].toNat : Int) ∧ (l[k].toNat : Int) ≤ 57 := by simpa [isDigit] using hd
          have HD := Lib.hid hd
          obtain ⟨d1, d2⟩ := hd2
          go_wp2_with (first | (go_at_call 94; (with_reducible refine Calls.mono (rdigit_calls _ _) ?_); rintro e w' ⟨rfl, rfl⟩) | ((with_reducible refine wp_region_quiet_below (by kernel_rfl) (by kernel_rfl) ?_); (repeat (any_goals (first | (go_big_quiet_step ((first | (go_at_call 94; with_reducible exact reg_pure (rdigit_calls _ _))))) | (quiet_step ((first | (go_at_call 94; with_reducible exact reg_pure (rdigit_calls _ _))))) | (refine wpQuiet_step (fun K hK => ?_); go_simp; split <;> (refine hK _ ?_; clear hK K))))); all_goals (refine wpQuiet_nil ?_; intro _ hw'; obtain ⟨⟨dq, osq⟩, hw''⟩ := hw'; subst hw'')))
          exact ⟨⟨k + 1, by omega, by go_num, by rw [HS.out]; congr 1; omega, by show allB isDigit _ = true; rw [allB_take _ l k hlt, hrel.out, HD.out]; rfl⟩, by simp [intOf]; omega⟩
      · have h2 := hrel.out
        rw [List.take_of_length_le (by omega)] at h2 hb
        have H2 := Lib.hid h2
        have hx : rportL l = if 65535 < (digitsL l : Int) then -1 else (digitsL l : Int) := by
          unfold rportL
          by_cases hz : 65535 < digitsL l
          · rw [if_pos (by omega), if_pos (by omega)]
          · rw [if_neg (by
              rintro (hc | hc | hc | hc)
              · omega
              · omega
              · rw [H2.out] at hc; cases hc
              · omega), if_neg (by omega)]
        have HX := Lib.hid hx
        clear h2 hx
        rw [List.take_of_length_le (by omega)]
        by_cases hz : (65535 : Int) < (digitsL l : Int)
        · go_wp2_with (first | (go_at_call 94; (with_reducible refine Calls.mono (rdigit_calls _ _) ?_); rintro e w' ⟨rfl, rfl⟩) | ((with_reducible refine wp_region_quiet_below (by kernel_rfl) (by kernel_rfl) ?_); (repeat (any_goals (first | (go_big_quiet_step ((first | (go_at_call 94; with_reducible exact reg_pure (rdigit_calls _ _))))) | (quiet_step ((first | (go_at_call 94; with_reducible exact reg_pure (rdigit_calls _ _))))) | (refine wpQuiet_step (fun K hK => ?_); go_simp; split <;> (refine hK _ ?_; clear hK K))))); all_goals (refine wpQuiet_nil ?_; intro _ hw'; obtain ⟨⟨dq, osq⟩, hw''⟩ := hw'; subst hw'')))
          go_ret
          exact ⟨ret_int (by rw [HX.out, if_pos hz]), rfl⟩
        · go_wp2_with (first | (go_at_call 94; (with_reducible refine Calls.mono (rdigit_calls _ _) ?_); rintro e w' ⟨rfl, rfl⟩) | ((with_reducible refine wp_region_quiet_below (by kernel_rfl) (by kernel_rfl) ?_); (repeat (any_goals (first | (go_big_quiet_step ((first | (go_at_call 94; with_reducible exact reg_pure (rdigit_calls _ _))))) | (quiet_step ((first | (go_at_call 94; with_reducible exact reg_pure (rdigit_calls _ _))))) | (refine wpQuiet_step (fun K hK => ?_); go_simp; split <;> (refine hK _ ?_; clear hK K))))); all_goals (refine wpQuiet_nil ?_; intro _ hw'; obtain ⟨⟨dq, osq⟩, hw''⟩ := hw'; subst hw'')))
          go_ret
          exact ⟨ret_int (by rw [HX.out, if_neg (by omega)]), rfl⟩
set_option maxRecDepth 100000 in
set_option maxHeartbeats 1000000 in
theorem rcut_calls (l a : List UInt8) (w : World) (hs : l.length ≤ 1000000) (ha : a.length ≤ 1000000) :
    Calls Tryz.prog 40 #[.string ⟨l.toArray⟩, .string ⟨a.toArray⟩] w fun e w' => e = .returned (.tuple #[.string ⟨(frontL l a).toArray⟩, .string ⟨(restL l a).toArray⟩]) ∧ Reach w w' := by
  go_enter Tryz.func40, Tryz.ntmps40
  go_wp2_with fail
  go_loopw [6, 7] (fun i _ wr => ∃ k : Nat, k ≤ l.length ∧ i = .int .i64 k ∧ RowKit.Hid (Reach w wr) ∧ RowKit.Hid (∀ j (_ : j < l.length), j < k → l[j] ∉ a)) (fun i _ _ => l.length - (intOf i).toNat)
  case atStart => exact ⟨0, Nat.zero_le _, rfl, Reach.refl _, fun j _ h => absurd h (Nat.not_lt_zero _)⟩
  case round =>
    obtain ⟨k, hk, rfl, hR, hrel⟩ := hrel
    by_cases hlt : k < l.length
    · go_wp2_with fail
      have Hrel := hrel
      clear hrel
      go_loopw [7] (fun i wi => ∃ t : Nat, t ≤ a.length ∧ i = .int .i64 t ∧ RowKit.Hid (Reach w wi) ∧ RowKit.Hid (∀ j (_ : j < a.length), j < t → l[k] ≠ a[j])) (fun i _ => a.length - (intOf i).toNat)
      case atStart => exact ⟨0, Nat.zero_le _, rfl, hR, fun j _ h => absurd h (Nat.not_lt_zero _)⟩
      case round =>
        obtain ⟨t, ht, rfl, hR2, hin⟩ := hrel
        by_cases htl : t < a.length
        · cases he : ((l[k].toNat : Int) == (a[t].toNat : Int))
          · go_wp2_with (first | ((with_reducible refine wp_region_quiet_below (by kernel_rfl) (by kernel_rfl) ?_); (repeat (any_goals (first | (go_big_quiet_step (fail)) | (quiet_step (fail)) | (refine wpQuiet_step (fun K hK => ?_); go_simp; split <;> (refine hK _ ?_; clear hK K))))); all_goals (refine wpQuiet_nil ?_; intro _ hw'; obtain ⟨⟨dq, osq⟩, hw''⟩ := hw'; subst hw'')))
            have hne : l[k] ≠ a[t] := by
              intro e
              rw [e] at he
              simp at he
            exact ⟨⟨t + 1, by omega, by go_num, (by have hr := hR2.out; show Reach _ _; (repeat (first | (with_reducible assumption) | (with_reducible exact Reach.refl _) | (with_reducible refine Reach.alloc ?_ _) | (with_reducible refine Reach.drew ?_) | (with_reducible refine Reach.drewN ?_ _) | (with_reducible refine Reach.grow ?_ _ _) | (with_reducible refine Reach.setCell ?_ ?_ _) | (with_reducible refine Reach.trans ?_ (by with_reducible assumption)) | (show _ ≤ Addr.block _; first | (exact Nat.le_refl _) | (show (_ : Nat) ≤ _; omega)) | (simp; done) | (simp; omega)))), fun j hj hjt => by
              by_cases e : j = t
              · subst e; exact hne
              · exact hin.out j hj (by omega)⟩, by simp [intOf]; omega⟩
          · have heq : l[k] = a[t] := by
              rw [beq_iff_eq] at he
              apply UInt8.toNat.inj
              omega
            have hsp := span_at (fun b => !a.contains b) l k hlt (fun j h hj => by simpa using Hrel.out j h hj) (by simp [heq])
            have HSP := Lib.hid hsp
            clear hsp
            go_wp2_with (first | ((with_reducible refine wp_region_quiet_below (by kernel_rfl) (by kernel_rfl) ?_); (repeat (any_goals (first | (go_big_quiet_step (fail)) | (quiet_step (fail)) | (refine wpQuiet_step (fun K hK => ?_); go_simp; split <;> (refine hK _ ?_; clear hK K))))); all_goals (refine wpQuiet_nil ?_; intro _ hw'; obtain ⟨⟨dq, osq⟩, hw''⟩ := hw'; subst hw'')))
            go_ret2
            refine ⟨?_, by have hr := hR2.out; (repeat (first | (with_reducible assumption) | (with_reducible exact Reach.refl _) | (with_reducible refine Reach.alloc ?_ _) | (with_reducible refine Reach.drew ?_) | (with_reducible refine Reach.drewN ?_ _) | (with_reducible refine Reach.grow ?_ _ _) | (with_reducible refine Reach.setCell ?_ ?_ _) | (with_reducible refine Reach.trans ?_ (by with_reducible assumption)) | (show _ ≤ Addr.block _; first | (exact Nat.le_refl _) | (show (_ : Nat) ≤ _; omega)) | (simp; done) | (simp; omega)))⟩
            show Ending.returned (.tuple #[.string ⟨_⟩, .string ⟨_⟩]) = _
            rw [frontL, restL, HSP.out.1, HSP.out.2]
        · go_wp2_with (first | ((with_reducible refine wp_region_quiet_below (by kernel_rfl) (by kernel_rfl) ?_); (repeat (any_goals (first | (go_big_quiet_step (fail)) | (quiet_step (fail)) | (refine wpQuiet_step (fun K hK => ?_); go_simp; split <;> (refine hK _ ?_; clear hK K))))); all_goals (refine wpQuiet_nil ?_; intro _ hw'; obtain ⟨⟨dq, osq⟩, hw''⟩ := hw'; subst hw'')))
          exact ⟨⟨k + 1, by omega, by go_num, (by have hr := hR2.out; show Reach _ _; (repeat (first | (with_reducible assumption) | (with_reducible exact Reach.refl _) | (with_reducible refine Reach.alloc ?_ _) | (with_reducible refine Reach.drew ?_) | (with_reducible refine Reach.drewN ?_ _) | (with_reducible refine Reach.grow ?_ _ _) | (with_reducible refine Reach.setCell ?_ ?_ _) | (with_reducible refine Reach.trans ?_ (by with_reducible assumption)) | (show _ ≤ Addr.block _; first | (exact Nat.le_refl _) | (show (_ : Nat) ≤ _; omega)) | (simp; done) | (simp; omega)))), fun j hj hjk => by
            by_cases e : j = k
            · subst e
              intro hm
              obtain ⟨i, hi, he⟩ := List.getElem_of_mem hm
              exact hin.out i hi (by omega) he.symm
            · exact Hrel.out j hj (by omega)⟩, by simp [intOf]; omega⟩
    · have hsp := span_none (fun b => !a.contains b) l (fun j h => by simpa using hrel.out j h (by omega))
      have HSP := Lib.hid hsp
      clear hsp
      go_wp2_with (first | ((with_reducible refine wp_region_quiet_below (by kernel_rfl) (by kernel_rfl) ?_); (repeat (any_goals (first | (go_big_quiet_step (fail)) | (quiet_step (fail)) | (refine wpQuiet_step (fun K hK => ?_); go_simp; split <;> (refine hK _ ?_; clear hK K))))); all_goals (refine wpQuiet_nil ?_; intro _ hw'; obtain ⟨⟨dq, osq⟩, hw''⟩ := hw'; subst hw'')))
      go_ret2
      refine ⟨?_, by have hr := hR.out; (repeat (first | (with_reducible assumption) | (with_reducible exact Reach.refl _) | (with_reducible refine Reach.alloc ?_ _) | (with_reducible refine Reach.drew ?_) | (with_reducible refine Reach.drewN ?_ _) | (with_reducible refine Reach.grow ?_ _ _) | (with_reducible refine Reach.setCell ?_ ?_ _) | (with_reducible refine Reach.trans ?_ (by with_reducible assumption)) | (show _ ≤ Addr.block _; first | (exact Nat.le_refl _) | (show (_ : Nat) ≤ _; omega)) | (simp; done) | (simp; omega)))⟩
      show Ending.returned (.tuple #[.string ⟨_⟩, .string ⟨_⟩]) = _
      rw [frontL, restL, HSP.out.1, HSP.out.2]
end Go.Proofs.YtbeaheicjopooaaGreatDoor
