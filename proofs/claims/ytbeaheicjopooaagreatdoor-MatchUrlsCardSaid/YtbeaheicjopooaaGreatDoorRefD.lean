/- What the reference answers of hosts, visible texts and ports; texts of at most a million bytes. -/
import Derived.Test.YtbeaheicjopooaaGreatDoorProg
import Derived.Test.YtbeaheicjopooaaGreatDoorPure
import Derived.Test.YtbeaheicjopooaaGreatDoorRefA
import Derived.Test.YtbeaheicjopooaaGreatDoorRefC
namespace Go.Proofs.YtbeaheicjopooaaGreatDoor
open Go.RowKit Go.Sort
attribute [local go_sem] get_mk mk_append mk_extract0 mk_extract_end mk_extract_cons empty_mk cell_grow frozen_grow size_grow
theorem u8_46 (b : UInt8) : (b == 46) = ((b.toNat : Int) == 46) := by
  rw [Bool.eq_iff_iff, beq_iff_eq, beq_iff_eq]
  constructor
  · rintro rfl; rfl
  · intro h
    apply UInt8.toNat.inj
    show b.toNat = 46
    omega
theorem beq46_45 (c : Int) (h : (c == 45) = true) : (c == 46) = false := by
  rw [beq_iff_eq] at h
  subst h
  rfl
theorem beq46_digit (c : Int) (h : isDigit c = true) : (c == 46) = false := by
  simp [isDigit] at h
  rw [beq_eq_false_iff_ne]
  omega
theorem beq46_letter (c : Int) (h : isLetter c = true) : (c == 46) = false := by
  simp [isLetter] at h
  rw [beq_eq_false_iff_ne]
  omega
/-- Nothing but bytes from 33 to 126, without two. -/
def visB (a b : Int) (c : Int) : Bool := !(decide (c < 33) || decide (126 < c) || c == a || c == b)
set_option maxRecDepth 100000 in
set_option maxHeartbeats 1000000 in
theorem visible_calls (l : List UInt8) (a b : Int) (w : World) (hs : l.length ≤ 1000000) :
    Calls Tryz.prog 89 #[.string ⟨l.toArray⟩, .int .u8 a, .int .u8 b] w fun e w' => e = .returned (.bool (allB (visB a b) l)) ∧ w = w' := by
  go_enter Tryz.func89, Tryz.ntmps89
  go_wp2_with fail
  go_loop [7] (fun i => ∃ k : Nat, k ≤ l.length ∧ i = .int .i64 k ∧ RowKit.Hid (allB (visB a b) (l.take k) = true)) (fun i => l.length - (intOf i).toNat)
  case atStart => exact ⟨0, Nat.zero_le _, rfl, rfl⟩
  case round =>
    obtain ⟨k, hk, rfl, hrel⟩ := hrel
    by_cases hlt : k < l.length
    · have nxt : visB a b (l[k].toNat : Int) = true → allB (visB a b) (l.take (k + 1)) = true := fun h => by rw [allB_take _ l k hlt, hrel.out, h]; rfl
      have stp : visB a b (l[k].toNat : Int) = false → allB (visB a b) l = false := fun h => allB_false (visB a b) l k hlt h
      have NX := Lib.hid nxt
      have ST := Lib.hid stp
      clear nxt stp
      by_cases p1 : (l[k].toNat : Int) < 33
      · go_wp2_with (first | ((with_reducible refine wp_region_quiet_below (by kernel_rfl) (by kernel_rfl) ?_); (repeat (any_goals (first | (go_big_quiet_step (fail)) | (quiet_step (fail)) | (refine wpQuiet_step (fun K hK => ?_); go_simp; split <;> (refine hK _ ?_; clear hK K))))); all_goals (refine wpQuiet_nil ?_; intro _ hw'; obtain ⟨⟨dq, osq⟩, hw''⟩ := hw'; subst hw'')))
        go_ret
        exact ⟨ret_bool (ST.out (by simp [visB, p1])).symm, rfl⟩
      by_cases p2 : 126 < (l[k].toNat : Int)
      · go_wp2_with (first | ((with_reducible refine wp_region_quiet_below (by kernel_rfl) (by kernel_rfl) ?_); (repeat (any_goals (first | (go_big_quiet_step (fail)) | (quiet_step (fail)) | (refine wpQuiet_step (fun K hK => ?_); go_simp; split <;> (refine hK _ ?_; clear hK K))))); all_goals (refine wpQuiet_nil ?_; intro _ hw'; obtain ⟨⟨dq, osq⟩, hw''⟩ := hw'; subst hw'')))
        go_ret
        exact ⟨ret_bool (ST.out (by simp [visB, p2])).symm, rfl⟩
      cases p3 : ((l[k].toNat : Int) == a)
      rotate_left
      · go_wp2_with (first | ((with_reducible refine wp_region_quiet_below (by kernel_rfl) (by kernel_rfl) ?_); (repeat (any_goals (first | (go_big_quiet_step (fail)) | (quiet_step (fail)) | (refine wpQuiet_step (fun K hK => ?_); go_simp; split <;> (refine hK _ ?_; clear hK K))))); all_goals (refine wpQuiet_nil ?_; intro _ hw'; obtain ⟨⟨dq, osq⟩, hw''⟩ := hw'; subst hw'')))
        go_ret
        exact ⟨ret_bool (ST.out (by simp [visB, p3])).symm, rfl⟩
      cases p4 : ((l[k].toNat : Int) == b)
      rotate_left
      · go_wp2_with (first | ((with_reducible refine wp_region_quiet_below (by kernel_rfl) (by kernel_rfl) ?_); (repeat (any_goals (first | (go_big_quiet_step (fail)) | (quiet_step (fail)) | (refine wpQuiet_step (fun K hK => ?_); go_simp; split <;> (refine hK _ ?_; clear hK K))))); all_goals (refine wpQuiet_nil ?_; intro _ hw'; obtain ⟨⟨dq, osq⟩, hw''⟩ := hw'; subst hw'')))
        go_ret
        exact ⟨ret_bool (ST.out (by simp [visB, p4])).symm, rfl⟩
      · go_wp2_with (first | ((with_reducible refine wp_region_quiet_below (by kernel_rfl) (by kernel_rfl) ?_); (repeat (any_goals (first | (go_big_quiet_step (fail)) | (quiet_step (fail)) | (refine wpQuiet_step (fun K hK => ?_); go_simp; split <;> (refine hK _ ?_; clear hK K))))); all_goals (refine wpQuiet_nil ?_; intro _ hw'; obtain ⟨⟨dq, osq⟩, hw''⟩ := hw'; subst hw'')))
        all_goals first
          | (refine ⟨⟨k + 1, by omega, by first | go_num | omega, NX.out (by simp [visB, p1, p2, p3, p4])⟩, by simp [intOf]; omega⟩)
          | rfl
          | trace_state
    · have h2 := hrel.out
      rw [List.take_of_length_le (by omega)] at h2
      have H2 := Lib.hid h2
      clear h2
      go_wp2_with (first | ((with_reducible refine wp_region_quiet_below (by kernel_rfl) (by kernel_rfl) ?_); (repeat (any_goals (first | (go_big_quiet_step (fail)) | (quiet_step (fail)) | (refine wpQuiet_step (fun K hK => ?_); go_simp; split <;> (refine hK _ ?_; clear hK K))))); all_goals (refine wpQuiet_nil ?_; intro _ hw'; obtain ⟨⟨dq, osq⟩, hw''⟩ := hw'; subst hw'')))
      go_ret
      exact ⟨ret_bool H2.out.symm, rfl⟩
/-- A text that may stand behind an opaque scheme. -/
def restB (l : List UInt8) : Bool := allB opqByte l && trimL l == l
set_option maxRecDepth 100000 in
set_option maxHeartbeats 1000000 in
theorem rrest_calls (l : List UInt8) (w : World) (hs : l.length ≤ 1000000) :
    Calls Tryz.prog 86 #[.string ⟨l.toArray⟩] w fun e w' => e = .returned (.bool (restB l)) ∧ w = w' := by
  go_enter Tryz.func86, Tryz.ntmps86
  go_wp2_with fail
  go_loop [3] (fun i => ∃ k : Nat, k ≤ l.length ∧ i = .int .i64 k ∧ RowKit.Hid (allB opqByte (l.take k) = true)) (fun i => l.length - (intOf i).toNat)
  case atStart => exact ⟨0, Nat.zero_le _, rfl, rfl⟩
  case round =>
    obtain ⟨k, hk, rfl, hrel⟩ := hrel
    by_cases hlt : k < l.length
    · go_wp2_with (first | (go_at_call 41; (with_reducible refine Calls.mono (rtrim_calls _ _ (by first | (with_reducible assumption) | omega | (simp; done) | (simp; omega))) ?_); rintro e w' ⟨rfl, rfl⟩) | ((with_reducible refine wp_region_quiet_below (by kernel_rfl) (by kernel_rfl) ?_); (repeat (any_goals (first | (go_big_quiet_step ((first | (go_at_call 41; with_reducible exact reg_pure (rtrim_calls _ _ (by first | (with_reducible assumption) | omega | (simp; done) | (simp; omega))))))) | (quiet_step ((first | (go_at_call 41; with_reducible exact reg_pure (rtrim_calls _ _ (by first | (with_reducible assumption) | omega | (simp; done) | (simp; omega))))))) | (refine wpQuiet_step (fun K hK => ?_); go_simp; split <;> (refine hK _ ?_; clear hK K))))); all_goals (refine wpQuiet_nil ?_; intro _ hw'; obtain ⟨⟨dq, osq⟩, hw''⟩ := hw'; subst hw'')))
      all_goals first
        | (refine ⟨⟨k + 1, by omega, by go_num, ?_⟩, by simp [intOf]; omega⟩
           show allB opqByte (l.take (k + 1)) = true
           rw [allB_take _ l k hlt, hrel.out]
           simp_all [opqByte]
           try omega
           done)
        | (go_ret
           refine ⟨ret_bool ?_, rfl⟩
           unfold restB
           rw [allB_false opqByte l k hlt (by simp_all [opqByte]; try omega)]
           rfl)
        | (exfalso; simp_all; done)
        | (exfalso; simp_all; omega)
    · have h2 := hrel.out
      rw [List.take_of_length_le (by omega)] at h2
      have H2 := Lib.hid h2
      clear h2
      go_wp2_with (first | (go_at_call 41; (with_reducible refine Calls.mono (rtrim_calls _ _ (by first | (with_reducible assumption) | omega | (simp; done) | (simp; omega))) ?_); rintro e w' ⟨rfl, rfl⟩) | ((with_reducible refine wp_region_quiet_below (by kernel_rfl) (by kernel_rfl) ?_); (repeat (any_goals (first | (go_big_quiet_step ((first | (go_at_call 41; with_reducible exact reg_pure (rtrim_calls _ _ (by first | (with_reducible assumption) | omega | (simp; done) | (simp; omega))))))) | (quiet_step ((first | (go_at_call 41; with_reducible exact reg_pure (rtrim_calls _ _ (by first | (with_reducible assumption) | omega | (simp; done) | (simp; omega))))))) | (refine wpQuiet_step (fun K hK => ?_); go_simp; split <;> (refine hK _ ?_; clear hK K))))); all_goals (refine wpQuiet_nil ?_; intro _ hw'; obtain ⟨⟨dq, osq⟩, hw''⟩ := hw'; subst hw'')))
      go_ret
      exact ⟨ret_bool (by unfold restB; rw [H2.out, Bool.true_and]), rfl⟩
set_option maxRecDepth 100000 in
set_option maxHeartbeats 2000000 in
theorem rhost_calls (l : List UInt8) (w : World) (hs : l.length ≤ 1000000) :
    Calls Tryz.prog 87 #[.string ⟨l.toArray⟩] w fun e w' => e = .returned (.bool (hostB l)) ∧ w = w' := by
  by_cases h0 : 0 < l.length
  · rw [hostB_eq l h0]
    by_cases h1 : l.length ≤ 100
    · rw [decide_eq_true h1]
      have g1 : ¬ (100 : Int) < l.length := by omega
      have g0 : ¬ (l.length : Int) < 1 := by omega
      have gl : ((l.length : Int) - 1) = ((l.length - 1 : Nat) : Int) := by omega
      cases hF : ((l[0].toNat : Int) == 46)
      · have e0 : (l[0] == 46) = false := by rw [u8_46]; exact hF
        rw [e0]
        cases hL : ((l[l.length - 1].toNat : Int) == 46)
        · have e1 : (l[l.length - 1] == 46) = false := by rw [u8_46]; exact hL
          rw [e1]
          simp only [Bool.true_and, Bool.not_false, Bool.and_true]
          go_enter Tryz.func87, Tryz.ntmps87
          go_wp2_with (first | (go_at_call 93; (with_reducible refine Calls.mono (rletter_calls _ _) ?_); rintro e w' ⟨rfl, rfl⟩) | (go_at_call 94; (with_reducible refine Calls.mono (rdigit_calls _ _) ?_); rintro e w' ⟨rfl, rfl⟩) | ((with_reducible refine wp_region_quiet_below (by kernel_rfl) (by kernel_rfl) ?_); (repeat (any_goals (first | (go_big_quiet_step ((first | (go_at_call 93; with_reducible exact reg_pure (rletter_calls _ _)) | (go_at_call 94; with_reducible exact reg_pure (rdigit_calls _ _))))) | (quiet_step ((first | (go_at_call 93; with_reducible exact reg_pure (rletter_calls _ _)) | (go_at_call 94; with_reducible exact reg_pure (rdigit_calls _ _))))) | (refine wpQuiet_step (fun K hK => ?_); go_simp; split <;> (refine hK _ ?_; clear hK K))))); all_goals (refine wpQuiet_nil ?_; intro _ hw'; obtain ⟨⟨dq, osq⟩, hw''⟩ := hw'; subst hw'')))
          clear hL e1 gl
          go_loop [3, 4] (fun i _ => ∃ k : Nat, k ≤ l.length ∧ i = .int .i64 k ∧ RowKit.Hid (allB hostByte (l.take k) = true ∧ dd (l.take k) = false)) (fun i _ => l.length - (intOf i).toNat)
          case atStart => exact ⟨0, Nat.zero_le _, rfl, rfl, rfl⟩
          case round =>
            obtain ⟨k, hk, rfl, hrel⟩ := hrel
            by_cases hlt : k < l.length
            · have stp : hostByte (l[k].toNat : Int) = false → (allB hostByte l && !dd l) = false := fun h => by rw [allB_false hostByte l k hlt h]; rfl
              have nxt : hostByte (l[k].toNat : Int) = true → allB hostByte (l.take (k + 1)) = true := fun h => by rw [allB_take _ l k hlt, hrel.out.1, h]; rfl
              have ST := Lib.hid stp
              have NX := Lib.hid nxt
              clear stp nxt
              have L46 := Lib.hid (beq46_letter (l[k].toNat : Int))
              have D46 := Lib.hid (beq46_digit (l[k].toNat : Int))
              by_cases hk0 : k = 0
              · have hFk : ((l[k].toNat : Int) == 46) = false := by subst hk0; exact hF
                have HD : RowKit.Hid (dd (l.take (k + 1)) = false) := by subst hk0; exact dd_one l h0
                clear hk0
                go_wp2_with (first | (go_at_call 93; (with_reducible refine Calls.mono (rletter_calls _ _) ?_); rintro e w' ⟨rfl, rfl⟩) | (go_at_call 94; (with_reducible refine Calls.mono (rdigit_calls _ _) ?_); rintro e w' ⟨rfl, rfl⟩) | ((with_reducible refine wp_region_quiet_below (by kernel_rfl) (by kernel_rfl) ?_); (repeat (any_goals (first | (go_big_quiet_step ((first | (go_at_call 93; with_reducible exact reg_pure (rletter_calls _ _)) | (go_at_call 94; with_reducible exact reg_pure (rdigit_calls _ _))))) | (quiet_step ((first | (go_at_call 93; with_reducible exact reg_pure (rletter_calls _ _)) | (go_at_call 94; with_reducible exact reg_pure (rdigit_calls _ _))))) | (refine wpQuiet_step (fun K hK => ?_); go_simp; split <;> (refine hK _ ?_; clear hK K))))); all_goals (refine wpQuiet_nil ?_; intro _ hw'; obtain ⟨⟨dq, osq⟩, hw''⟩ := hw'; subst hw'')))
                all_goals first
                  | (have hx : hostByte (l[k].toNat : Int) = true := by (have L := L46.out; have D := D46.out; simp_all [hostByte]; done)
                     exact ⟨⟨k + 1, by omega, by go_num, NX.out hx, HD.out⟩, by simp [intOf]; omega⟩)
                  | (have hx : hostByte (l[k].toNat : Int) = false := by (have L := L46.out; have D := D46.out; simp_all [hostByte]; done)
                     go_ret
                     exact ⟨ret_bool (ST.out hx).symm, rfl⟩)
                  | (exfalso; have L := L46.out; have D := D46.out; simp_all; done)
              obtain ⟨m, rfl⟩ : ∃ m, k = m + 1 := ⟨k - 1, by omega⟩
              · have ddn : ((l[m] == 46) && (l[m + 1] == 46)) = false → dd (l.take (m + 1 + 1)) = false := fun h => by rw [dd_take l m hlt, hrel.out.2, h]; rfl
                have ddy : ((l[m] == 46) && (l[m + 1] == 46)) = true → (allB hostByte l && !dd l) = false := fun h => by
                  rw [dd_mono l (m + 2) (by rw [dd_take l m hlt, h]; simp)]; simp
                rw [u8_46, u8_46] at ddn ddy
                have DN := Lib.hid ddn
                have DY := Lib.hid ddy
                clear ddn ddy
                go_wp2_with (first | (go_at_call 93; (with_reducible refine Calls.mono (rletter_calls _ _) ?_); rintro e w' ⟨rfl, rfl⟩) | (go_at_call 94; (with_reducible refine Calls.mono (rdigit_calls _ _) ?_); rintro e w' ⟨rfl, rfl⟩) | ((with_reducible refine wp_region_quiet_below (by kernel_rfl) (by kernel_rfl) ?_); (repeat (any_goals (first | (go_big_quiet_step ((first | (go_at_call 93; with_reducible exact reg_pure (rletter_calls _ _)) | (go_at_call 94; with_reducible exact reg_pure (rdigit_calls _ _))))) | (quiet_step ((first | (go_at_call 93; with_reducible exact reg_pure (rletter_calls _ _)) | (go_at_call 94; with_reducible exact reg_pure (rdigit_calls _ _))))) | (refine wpQuiet_step (fun K hK => ?_); go_simp; split <;> (refine hK _ ?_; clear hK K))))); all_goals (refine wpQuiet_nil ?_; intro _ hw'; obtain ⟨⟨dq, osq⟩, hw''⟩ := hw'; subst hw'')))
                all_goals first
                  | (have hx : hostByte (l[m + 1].toNat : Int) = true ∧ (((l[m].toNat : Int) == 46) && ((l[m + 1].toNat : Int) == 46)) = false := by (have L := L46.out; have D := D46.out; simp_all [hostByte]; done)
                     exact ⟨⟨m + 2, by omega, by first | rfl | go_num | (go_simp; omega), NX.out hx.1, DN.out hx.2⟩, by simp [intOf]; omega⟩)
                  | (have hx : hostByte (l[m + 1].toNat : Int) = false := by (have L := L46.out; have D := D46.out; simp_all [hostByte]; done)
                     go_ret
                     exact ⟨ret_bool (ST.out hx).symm, rfl⟩)
                  | (have hx : (((l[m].toNat : Int) == 46) && ((l[m + 1].toNat : Int) == 46)) = true := by (have L := L46.out; have D := D46.out; simp_all; done)
                     go_ret
                     exact ⟨ret_bool (DY.out hx).symm, rfl⟩)
                  | (exfalso; have L := L46.out; have D := D46.out; simp_all; done)
            · obtain rfl : k = l.length := by omega
              have h2 := hrel.out
              rw [List.take_length] at h2
              have H2 := Lib.hid h2
              clear h2
              go_wp2_with (first | ((with_reducible refine wp_region_quiet_below (by kernel_rfl) (by kernel_rfl) ?_); (repeat (any_goals (first | (go_big_quiet_step (fail)) | (quiet_step (fail)) | (refine wpQuiet_step (fun K hK => ?_); go_simp; split <;> (refine hK _ ?_; clear hK K))))); all_goals (refine wpQuiet_nil ?_; intro _ hw'; obtain ⟨⟨dq, osq⟩, hw''⟩ := hw'; subst hw'')))
              go_ret
              exact ⟨ret_bool (by rw [H2.out.1, H2.out.2]; rfl), rfl⟩
        · have e1 : (l[l.length - 1] == 46) = true := by rw [u8_46]; exact hL
          rw [e1]
          simp only [Bool.true_and, Bool.not_true, Bool.and_false, Bool.false_and]
          go_enter Tryz.func87, Tryz.ntmps87
          go_wp2_with (first | (go_at_call 93; (with_reducible refine Calls.mono (rletter_calls _ _) ?_); rintro e w' ⟨rfl, rfl⟩) | (go_at_call 94; (with_reducible refine Calls.mono (rdigit_calls _ _) ?_); rintro e w' ⟨rfl, rfl⟩) | ((with_reducible refine wp_region_quiet_below (by kernel_rfl) (by kernel_rfl) ?_); (repeat (any_goals (first | (go_big_quiet_step ((first | (go_at_call 93; with_reducible exact reg_pure (rletter_calls _ _)) | (go_at_call 94; with_reducible exact reg_pure (rdigit_calls _ _))))) | (quiet_step ((first | (go_at_call 93; with_reducible exact reg_pure (rletter_calls _ _)) | (go_at_call 94; with_reducible exact reg_pure (rdigit_calls _ _))))) | (refine wpQuiet_step (fun K hK => ?_); go_simp; split <;> (refine hK _ ?_; clear hK K))))); all_goals (refine wpQuiet_nil ?_; intro _ hw'; obtain ⟨⟨dq, osq⟩, hw''⟩ := hw'; subst hw'')))
          all_goals (go_ret; exact ⟨rfl, rfl⟩)
      · have e0 : (l[0] == 46) = true := by rw [u8_46]; exact hF
        rw [e0]
        simp only [Bool.true_and, Bool.not_true, Bool.and_false, Bool.false_and]
        go_enter Tryz.func87, Tryz.ntmps87
        go_wp2_with (first | (go_at_call 93; (with_reducible refine Calls.mono (rletter_calls _ _) ?_); rintro e w' ⟨rfl, rfl⟩) | (go_at_call 94; (with_reducible refine Calls.mono (rdigit_calls _ _) ?_); rintro e w' ⟨rfl, rfl⟩) | ((with_reducible refine wp_region_quiet_below (by kernel_rfl) (by kernel_rfl) ?_); (repeat (any_goals (first | (go_big_quiet_step ((first | (go_at_call 93; with_reducible exact reg_pure (rletter_calls _ _)) | (go_at_call 94; with_reducible exact reg_pure (rdigit_calls _ _))))) | (quiet_step ((first | (go_at_call 93; with_reducible exact reg_pure (rletter_calls _ _)) | (go_at_call 94; with_reducible exact reg_pure (rdigit_calls _ _))))) | (refine wpQuiet_step (fun K hK => ?_); go_simp; split <;> (refine hK _ ?_; clear hK K))))); all_goals (refine wpQuiet_nil ?_; intro _ hw'; obtain ⟨⟨dq, osq⟩, hw''⟩ := hw'; subst hw'')))
        all_goals (go_ret; exact ⟨rfl, rfl⟩)
    · go_enter Tryz.func87, Tryz.ntmps87
      go_wp2_with (first | ((with_reducible refine wp_region_quiet_below (by kernel_rfl) (by kernel_rfl) ?_); (repeat (any_goals (first | (go_big_quiet_step (fail)) | (quiet_step (fail)) | (refine wpQuiet_step (fun K hK => ?_); go_simp; split <;> (refine hK _ ?_; clear hK K))))); all_goals (refine wpQuiet_nil ?_; intro _ hw'; obtain ⟨⟨dq, osq⟩, hw''⟩ := hw'; subst hw'')))
      all_goals (go_ret; exact ⟨ret_bool (by first | rfl | (simp [h1]; done)), rfl⟩)
  · go_enter Tryz.func87, Tryz.ntmps87
    go_wp2_with (first | ((with_reducible refine wp_region_quiet_below (by kernel_rfl) (by kernel_rfl) ?_); (repeat (any_goals (first | (go_big_quiet_step (fail)) | (quiet_step (fail)) | (refine wpQuiet_step (fun K hK => ?_); go_simp; split <;> (refine hK _ ?_; clear hK K))))); all_goals (refine wpQuiet_nil ?_; intro _ hw'; obtain ⟨⟨dq, osq⟩, hw''⟩ := hw'; subst hw'')))
    all_goals (go_ret; exact ⟨ret_bool (by cases l with | nil => rfl | cons b l => simp at h0), rfl⟩)
end Go.Proofs.YtbeaheicjopooaaGreatDoor
