/- What package url's port and Print answer, for texts of at most a million bytes. -/
import Derived.Test.YtbeaheicjopooaaGreatDoorProg
import Derived.Test.YtbeaheicjopooaaGreatDoorEnv
import Derived.Test.YtbeaheicjopooaaGreatDoorPure
import Derived.Test.YtbeaheicjopooaaGreatDoorShelf
import Derived.Test.YtbeaheicjopooaaGreatDoorUrlA
import Derived.Lib.Atoi
import Derived.Lib.ConvBytes
namespace Go.Proofs.YtbeaheicjopooaaGreatDoor
open Go.RowKit Go.Sort
attribute [local go_sem] get_mk mk_append mk_extract0 mk_extract_end mk_extract_cons empty_mk cell_grow frozen_grow size_grow
attribute [local go_sem] pred_sch pred_host pred_path pred_opq pred_qry pred_dig

theorem atoi_calls (l : List UInt8) (n : Nat) (w : World) (hl : l.length ≤ 18) (h : Lib.atoi l = some (n : Int)) :
    Calls Tryz.prog 130 #[.string ⟨l.toArray⟩] w fun e w' => e = .returned (.tuple #[.int .i64 (n : Int), .nilIface]) ∧ Reach w w' :=
  (Tryz.strconv_Atoi ⟨l.toArray⟩ n hl h w).mono fun e w' ⟨he, t, hw⟩ => ⟨he, by
    subst hw
    refine ⟨rfl, rfl, rfl, by rw [Lib.bytesWorld_size]; omega, fun k hk => Lib.bytesWorld_at_old w _ t k hk⟩⟩
set_option maxRecDepth 100000 in
set_option maxHeartbeats 400000 in
theorem port_calls (l : List UInt8) (w : World) (hs : l.length ≤ 1000000) :
    Calls Tryz.prog 109 #[.string ⟨l.toArray⟩] w fun e w' => e = .returned (.int .i64 (portL l)) ∧ Reach w w' := by
  cases l with
  | nil =>
    go_enter Tryz.func109, Tryz.ntmps109
    go_wp2_with (first | (go_at_call 71; (with_reducible refine Calls.mono (all_by _ _ _ (by first | (with_reducible assumption) | omega | (simp; done) | (simp; omega)) (by decide)) ?_); rintro e w' ⟨rfl, rfl⟩) | ((with_reducible refine wp_region_quiet_below (by kernel_rfl) (by kernel_rfl) ?_); (repeat (any_goals (first | (go_big_quiet_step ((first | (go_at_call 71; with_reducible exact reg_pure (all_by _ _ _ (by first | (with_reducible assumption) | omega | (simp; done) | (simp; omega)) (by decide)))))) | (quiet_step ((first | (go_at_call 71; with_reducible exact reg_pure (all_by _ _ _ (by first | (with_reducible assumption) | omega | (simp; done) | (simp; omega)) (by decide)))))) | (refine wpQuiet_step (fun K hK => ?_); go_simp; split <;> (refine hK _ ?_; clear hK K))))); all_goals (refine wpQuiet_nil ?_; intro _ hw'; obtain ⟨⟨dq, osq⟩, hw''⟩ := hw'; subst hw'')))
    go_ret
    exact ⟨rfl, Reach.refl _⟩
  | cons b r =>
    by_cases hbad : (b :: r).length < 2 ∨ 6 < (b :: r).length ∨ allB isDigit r = false
    · have hp : portL (b :: r) = -1 := by
        unfold portL
        rw [if_neg (by simp), if_pos (by simpa using hbad)]
      have Hp := Lib.hid hp
      have Hb := Lib.hid hbad
      clear hp hbad
      go_enter Tryz.func109, Tryz.ntmps109
      go_wp2_with (first | (go_at_call 71; (with_reducible refine Calls.mono (all_by _ _ _ (by first | (with_reducible assumption) | omega | (simp; done) | (simp; omega)) (by decide)) ?_); rintro e w' ⟨rfl, rfl⟩) | ((with_reducible refine wp_region_quiet_below (by kernel_rfl) (by kernel_rfl) ?_); (repeat (any_goals (first | (go_big_quiet_step ((first | (go_at_call 71; with_reducible exact reg_pure (all_by _ _ _ (by first | (with_reducible assumption) | omega | (simp; done) | (simp; omega)) (by decide)))))) | (quiet_step ((first | (go_at_call 71; with_reducible exact reg_pure (all_by _ _ _ (by first | (with_reducible assumption) | omega | (simp; done) | (simp; omega)) (by decide)))))) | (refine wpQuiet_step (fun K hK => ?_); go_simp; split <;> (refine hK _ ?_; clear hK K))))); all_goals (refine wpQuiet_nil ?_; intro _ hw'; obtain ⟨⟨dq, osq⟩, hw''⟩ := hw'; subst hw'')))
      all_goals first
        | (go_ret; exact ⟨ret_int Hp.out.symm, by (repeat (first | (with_reducible assumption) | (with_reducible exact Reach.refl _) | (with_reducible refine Reach.alloc ?_ _) | (with_reducible refine Reach.drew ?_) | (with_reducible refine Reach.drewN ?_ _) | (with_reducible refine Reach.grow ?_ _ _) | (with_reducible refine Reach.setCell ?_ ?_ _) | (with_reducible refine Reach.trans ?_ (by with_reducible assumption)) | (show _ ≤ Addr.block _; first | (exact Nat.le_refl _) | (show (_ : Nat) ≤ _; omega)) | (simp; done) | (simp; omega)))⟩)
        | (exfalso; have := Hb.out; simp_all; omega)
    · have h1 : 1 ≤ r.length := by simp at hbad; omega
      have h2 : r.length ≤ 5 := by simp at hbad; omega
      have h3 : allB isDigit r = true := by simp at hbad; exact hbad.2.2
      obtain ⟨n, hn, hp⟩ := portL_some b r h1 h2 h3
      have Hp := Lib.hid hp
      have HA := Lib.hid (fun W => atoi_calls r n W (by omega) hn)
      clear hbad hn hp
      go_enter Tryz.func109, Tryz.ntmps109
      go_wp2_with (first | (go_at_call 71; (with_reducible refine Calls.mono (all_by _ _ _ (by first | (with_reducible assumption) | omega | (simp; done) | (simp; omega)) (by decide)) ?_); rintro e w' ⟨rfl, rfl⟩) | (go_at_call 130; (with_reducible refine Calls.mono (HA.out _) ?_); rintro e w' ⟨rfl, hb⟩; obtain ⟨hc, hf, hz⟩ := Reach.facts hb))
      go_ret
      exact ⟨ret_int Hp.out.symm, by (repeat (first | (with_reducible assumption) | (with_reducible exact Reach.refl _) | (with_reducible refine Reach.alloc ?_ _) | (with_reducible refine Reach.drew ?_) | (with_reducible refine Reach.drewN ?_ _) | (with_reducible refine Reach.grow ?_ _ _) | (with_reducible refine Reach.setCell ?_ ?_ _) | (with_reducible refine Reach.trans ?_ (by with_reducible assumption)) | (show _ ≤ Addr.block _; first | (exact Nat.le_refl _) | (show (_ : Nat) ≤ _; omega)) | (simp; done) | (simp; omega)))⟩
end Go.Proofs.YtbeaheicjopooaaGreatDoor
