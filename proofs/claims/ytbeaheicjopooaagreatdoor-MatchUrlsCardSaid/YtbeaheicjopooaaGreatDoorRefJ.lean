/- What the reference answers of whether a path is clean; texts of at most a million bytes. -/
import Derived.Test.YtbeaheicjopooaaGreatDoorProg
import Derived.Test.YtbeaheicjopooaaGreatDoorRefI
import Derived.Test.YtbeaheicjopooaaGreatDoorRefD
namespace Go.Proofs.YtbeaheicjopooaaGreatDoor
open Go.RowKit Go.Sort
attribute [local go_sem] get_mk mk_append mk_extract0 mk_extract_end mk_extract_cons empty_mk cell_grow frozen_grow size_grow
/-- Is a path clean? -/
def cleanB (l : List UInt8) : Bool := l != [] && allB pathByte l && cleanL l == l
theorem vis_path : visB 63 35 = pathByte := by
  funext c
  unfold visB pathByte
  rw [Bool.eq_iff_iff]
  simp
  omega
theorem cleanB_slash (r : List UInt8) (h : allB pathByte (47 :: r) = true) : cleanB (47 :: r) = (splitC 47 r).all fun p => p != [46] && p != [46, 46] := by
  unfold cleanB
  rw [h, Bool.eq_iff_iff]
  simp only [Bool.and_eq_true, beq_iff_eq, cleanL_iff_same, List.all_eq_true, bne_iff_ne, stays]
  simp
set_option maxRecDepth 100000 in
set_option maxHeartbeats 2000000 in
theorem rcleanB_calls (l : List UInt8) (w : World) (hs : l.length ≤ 1000000) :
    Calls Tryz.prog 88 #[.string ⟨l.toArray⟩] w fun e w' => e = .returned (.bool (cleanB l)) ∧ Reach w w' := by
  cases l with
  | nil =>
    go_enter Tryz.func88, Tryz.ntmps88
    go_wp2_with (first | ((with_reducible refine wp_region_quiet_below (by kernel_rfl) (by kernel_rfl) ?_); (repeat (any_goals (first | (go_big_quiet_step (fail)) | (quiet_step (fail)) | (refine wpQuiet_step (fun K hK => ?_); go_simp; split <;> (refine hK _ ?_; clear hK K))))); all_goals (refine wpQuiet_nil ?_; intro _ hw'; obtain ⟨⟨dq, osq⟩, hw''⟩ := hw'; subst hw'')))
    go_ret
    exact ⟨rfl, Reach.refl _⟩
  | cons b r =>
    by_cases hb : b = 47
    · subst hb
      have hv := fun W => visible_calls (47 :: r) 63 35 W hs
      rw [vis_path] at hv
      have hr : r.length ≤ 1000000 := by simp at hs; omega
      cases ha : allB pathByte (47 :: r)
      · rw [ha] at hv
        have hc : cleanB (47 :: r) = false := by unfold cleanB; rw [ha]; simp
        have HV := Lib.hid hv
        have HC := Lib.hid hc
        clear hv hc ha
        go_enter Tryz.func88, Tryz.ntmps88
        go_wp2_with (first | (go_at_call 89; (with_reducible refine Calls.mono (HV.out _) ?_); rintro e w' ⟨rfl, rfl⟩))
        go_ret
        exact ⟨ret_bool HC.out.symm, Reach.refl _⟩
      · have hc := cleanB_slash r ha
        rw [ha] at hv
        have HP := Lib.hid (fun W => rpieces_calls r W hr)
        have hlen := splitC_length 47 r
        have hne := splitC_ne 47 r
        generalize splitC 47 r = ps at *
        have HV := Lib.hid hv
        have HC := Lib.hid hc
        have HNE := Lib.hid hne
        clear hv hc ha hne
        go_enter Tryz.func88, Tryz.ntmps88
        go_wp2_with (first | (go_at_call 89; (with_reducible refine Calls.mono (HV.out _) ?_); rintro e w' ⟨rfl, rfl⟩) | (go_at_call 120; (with_reducible refine Calls.mono (HP.out _) ?_); rintro e W1 ⟨v, rfl, hO⟩))
        obtain ⟨g, cap, rfl, hcap, hmx⟩ : ∃ g cap, v = .slice (some ⟨g, 0, none⟩) ps.length cap ∧ ps.length ≤ cap ∧ cap ≤ maxLen := by
          rcases hO.cases with ⟨_, h0⟩ | ⟨g, cap, h1, h2, h3⟩
          · exfalso
            apply HNE.out
            have := congrArg List.length h0
            rw [strW_length] at this
            exact List.eq_nil_of_length_eq_zero this
          · rw [strW_length] at h1 h2
            exact ⟨g, cap, h1, h2, h3⟩
        have HR0 := Lib.hid hO.1
        have hca := Own.cellAt (cs := strW ps) (g := g) (cap := cap) (by rw [strW_length]; exact hO)
        have HCA := Lib.hid (show ∀ j (h : j < ps.length), W1.cell? ⟨g, j, none⟩ = some (.string ⟨(ps[j]).toArray⟩) from fun j h => by
          rw [hca.2 j (by rw [strW_length]; exact h), strW_get])
        have HG := Lib.hid hca.1
        clear hca hO
        go_wp2_with fail
        go_loopw [4] (fun i wi => ∃ k : Nat, k ≤ ps.length ∧ i = .int .i64 k ∧ RowKit.Hid (Reach W1 wi) ∧ RowKit.Hid (∀ j (h : j < ps.length), j < k → ps[j] ≠ [46] ∧ ps[j] ≠ [46, 46])) (fun i _ => ps.length - (intOf i).toNat)
        case atStart => exact ⟨0, Nat.zero_le _, rfl, Reach.refl _, fun j _ h => absurd h (Nat.not_lt_zero _)⟩
        case round =>
          obtain ⟨k, hk, rfl, hRR, hall⟩ := hrel
          by_cases hlt : k < ps.length
          · have hcell := ((Reach.facts hRR.out).1 _ _ HG.out).trans (HCA.out k hlt)
            have hbad : ps[k] = [46] ∨ ps[k] = [46, 46] → (ps.all fun p => p != [46] && p != [46, 46]) = false := by
              intro h
              rw [List.all_eq_false]
              exact ⟨ps[k], List.getElem_mem hlt, by rcases h with h | h <;> simp [h]⟩
            have HBAD := Lib.hid hbad
            have hgood : ps[k] ≠ [46] → ps[k] ≠ [46, 46] → ∀ j (h : j < ps.length), j < k + 1 → ps[j] ≠ [46] ∧ ps[j] ≠ [46, 46] := by
              intro g1 g2 j hj hjk
              by_cases e : j = k
              · subst e; exact ⟨g1, g2⟩
              · exact hall.out j hj (by omega)
            have HGOOD := Lib.hid hgood
            clear hbad hgood hall
            have HR2 := Lib.hid (Reach.trans HR0.out hRR.out)
            by_cases h1 : ps[k] = [46]
            · have hb1 : (ps[k] == [46]) = true := by simp [h1]
              have H1 := Lib.hid h1
              clear h1
              go_wp2_with fail
              go_ret
              exact ⟨ret_bool (by rw [HC.out, HBAD.out (.inl H1.out)]), HR2.out⟩
            · have hb1 : (ps[k] == [46]) = false := by simp [h1]
              have H1 := Lib.hid h1
              clear h1
              by_cases h2 : ps[k] = [46, 46]
              · have hb2 : (ps[k] == [46, 46]) = true := by simp [h2]
                have H2 := Lib.hid h2
                clear h2
                go_wp2_with fail
                go_ret
                exact ⟨ret_bool (by rw [HC.out, HBAD.out (.inr H2.out)]), HR2.out⟩
              · have hb2 : (ps[k] == [46, 46]) = false := by simp [h2]
                have H2 := Lib.hid h2
                clear h2
                go_wp2_with fail
                exact ⟨⟨k + 1, by omega, by go_num, hRR, HGOOD.out H1.out H2.out⟩, by simp [intOf]; omega⟩
          · obtain rfl : k = ps.length := by omega
            have hx : (ps.all fun p => p != [46] && p != [46, 46]) = true := by
              rw [List.all_eq_true]
              intro p hp
              obtain ⟨i, hi, rfl⟩ := List.getElem_of_mem hp
              have := hall.out i hi hi
              simp [this.1, this.2]
            have HX := Lib.hid hx
            have HR2 := Lib.hid (Reach.trans HR0.out hRR.out)
            clear hx hall
            go_wp2_with fail
            go_ret
            exact ⟨ret_bool (by rw [HC.out, HX.out]), HR2.out⟩
    · have hc : cleanB (b :: r) = false := by unfold cleanB; rw [cleanL_other b r hb]; simp
      have HC := Lib.hid hc
      have hbb : ((b.toNat : Int) == 47) = false := by
        rw [beq_eq_false_iff_ne]
        intro e
        apply hb
        apply UInt8.toNat.inj
        show b.toNat = 47
        omega
      clear hc hb
      go_enter Tryz.func88, Tryz.ntmps88
      go_wp2_with (first | ((with_reducible refine wp_region_quiet_below (by kernel_rfl) (by kernel_rfl) ?_); (repeat (any_goals (first | (go_big_quiet_step (fail)) | (quiet_step (fail)) | (refine wpQuiet_step (fun K hK => ?_); go_simp; split <;> (refine hK _ ?_; clear hK K))))); all_goals (refine wpQuiet_nil ?_; intro _ hw'; obtain ⟨⟨dq, osq⟩, hw''⟩ := hw'; subst hw'')))
      all_goals first
        | (go_ret; exact ⟨ret_bool HC.out.symm, Reach.refl _⟩)
        | (exfalso; simp_all; done)
end Go.Proofs.YtbeaheicjopooaaGreatDoor
