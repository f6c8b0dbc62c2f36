/- What the reference answers of chapter 10's parts: schemes, hosts, ports, paths; texts of at most a million bytes. -/
import Derived.Test.YtbeaheicjopooaaGreatDoorProg
import Derived.Test.YtbeaheicjopooaaGreatDoorROrig
import Derived.Test.YtbeaheicjopooaaGreatDoorMatch
import Derived.Test.YtbeaheicjopooaaGreatDoorRefB
import Derived.Test.YtbeaheicjopooaaGreatDoorBig
namespace Go.Proofs.YtbeaheicjopooaaGreatDoor
open Go.RowKit Go.Sort
attribute [local go_sem] get_mk mk_append mk_extract0 mk_extract_end mk_extract_cons empty_mk cell_grow frozen_grow size_grow
attribute [local go_sem] mk_extract
set_option maxHeartbeats 1000000 in
theorem rscheme10_calls (told l : List UInt8) (w : World) : Calls Tryz.prog 20 #[.string ⟨told.toArray⟩, .string ⟨l.toArray⟩] w fun e w' => e = .returned (.bool (schM told l)) ∧ w = w' := by
  unfold schM
  cases h1 : (told == l)
  rotate_left
  · go_enter Tryz.func20, Tryz.ntmps20
    go_wp2_with (first | ((with_reducible refine wp_region_quiet_below (by kernel_rfl) (by kernel_rfl) ?_); (repeat (any_goals (first | (go_big_quiet_step (fail)) | (quiet_step (fail)) | (refine wpQuiet_step (fun K hK => ?_); go_simp; split <;> (refine hK _ ?_; clear hK K))))); all_goals (refine wpQuiet_nil ?_; intro _ hw'; obtain ⟨⟨dq, osq⟩, hw''⟩ := hw'; subst hw'')))
    go_ret
    exact ⟨ret_bool (by simp), rfl⟩
  by_cases h2 : told = [104, 116, 116, 112]
  · subst h2
    cases h3 : (l == [104, 116, 116, 112, 115])
    all_goals
      go_enter Tryz.func20, Tryz.ntmps20
      go_wp2_with (first | ((with_reducible refine wp_region_quiet_below (by kernel_rfl) (by kernel_rfl) ?_); (repeat (any_goals (first | (go_big_quiet_step (fail)) | (quiet_step (fail)) | (refine wpQuiet_step (fun K hK => ?_); go_simp; split <;> (refine hK _ ?_; clear hK K))))); all_goals (refine wpQuiet_nil ?_; intro _ hw'; obtain ⟨⟨dq, osq⟩, hw''⟩ := hw'; subst hw'')))
      go_ret
      exact ⟨ret_bool (by simp [h3]), rfl⟩
  have g2 : (told == [104, 116, 116, 112]) = false := by simpa using h2
  clear h2
  by_cases h4 : told = [119, 115]
  · subst h4
    go_enter Tryz.func20, Tryz.ntmps20
    go_wp2_with (first | ((with_reducible refine wp_region_quiet_below (by kernel_rfl) (by kernel_rfl) ?_); (repeat (any_goals (first | (go_big_quiet_step (fail)) | (quiet_step (fail)) | (refine wpQuiet_step (fun K hK => ?_); go_simp; split <;> (refine hK _ ?_; clear hK K))))); all_goals (refine wpQuiet_nil ?_; intro _ hw'; obtain ⟨⟨dq, osq⟩, hw''⟩ := hw'; subst hw'')))
    go_ret
    exact ⟨ret_bool (by simp), rfl⟩
  · have g4 : (told == [119, 115]) = false := by simpa using h4
    clear h4
    go_enter Tryz.func20, Tryz.ntmps20
    go_wp2_with (first | ((with_reducible refine wp_region_quiet_below (by kernel_rfl) (by kernel_rfl) ?_); (repeat (any_goals (first | (go_big_quiet_step (fail)) | (quiet_step (fail)) | (refine wpQuiet_step (fun K hK => ?_); go_simp; split <;> (refine hK _ ?_; clear hK K))))); all_goals (refine wpQuiet_nil ?_; intro _ hw'; obtain ⟨⟨dq, osq⟩, hw''⟩ := hw'; subst hw'')))
    go_ret
    exact ⟨ret_bool (by simp [g2, g4]), rfl⟩
set_option maxHeartbeats 1000000 in
theorem ends10_calls (l t : List UInt8) (w : World) (h1 : l.length ≤ 2000000) (h2 : t.length ≤ 2000000) : Calls Tryz.prog 54 #[.string ⟨l.toArray⟩, .string ⟨t.toArray⟩] w fun e w' => e = .returned (.bool (endsB l t)) ∧ w = w' := by
  unfold endsB
  by_cases h : t.length < l.length
  · have g1 : (t.length : Int) < l.length := by omega
    have g2 : ((l.length : Int) - t.length).toNat = l.length - t.length := by omega
    have g3 : (0 : Int) ≤ (l.length : Int) - t.length := by omega
    have g4 : (l.length : Int) - t.length ≤ l.length := by omega
    rw [decide_eq_true h]
    go_enter Tryz.func54, Tryz.ntmps54
    go_wp2_with (first | ((with_reducible refine wp_region_quiet_below (by kernel_rfl) (by kernel_rfl) ?_); (repeat (any_goals (first | (go_big_quiet_step (fail)) | (quiet_step (fail)) | (refine wpQuiet_step (fun K hK => ?_); go_simp; split <;> (refine hK _ ?_; clear hK K))))); all_goals (refine wpQuiet_nil ?_; intro _ hw'; obtain ⟨⟨dq, osq⟩, hw''⟩ := hw'; subst hw'')))
    go_ret
    exact ⟨ret_bool (by simp), rfl⟩
  · have g1 : ¬ (t.length : Int) < l.length := by omega
    rw [decide_eq_false h]
    go_enter Tryz.func54, Tryz.ntmps54
    go_wp2_with (first | ((with_reducible refine wp_region_quiet_below (by kernel_rfl) (by kernel_rfl) ?_); (repeat (any_goals (first | (go_big_quiet_step (fail)) | (quiet_step (fail)) | (refine wpQuiet_step (fun K hK => ?_); go_simp; split <;> (refine hK _ ?_; clear hK K))))); all_goals (refine wpQuiet_nil ?_; intro _ hw'; obtain ⟨⟨dq, osq⟩, hw''⟩ := hw'; subst hw'')))
    go_ret
    exact ⟨ret_bool (by simp), rfl⟩
set_option maxRecDepth 100000 in
set_option maxHeartbeats 1000000 in
theorem rportM_calls (k : Int) (t s h : List UInt8) (wd : Bool) (p : Int) (pa : List UInt8) (u0 : Bool) (u1 u2 : List UInt8) (u3 : Int) (u4 u5 : List UInt8) (w : World) :
    Calls Tryz.prog 24 #[.agg #[.int .i64 k, .string ⟨t.toArray⟩, .string ⟨s.toArray⟩, .string ⟨h.toArray⟩, .bool wd, .int .i64 p, .string ⟨pa.toArray⟩], .agg #[.bool u0, .string ⟨u1.toArray⟩, .string ⟨u2.toArray⟩, .int .i64 u3, .string ⟨u4.toArray⟩, .string ⟨u5.toArray⟩]] w fun e w' => e = .returned (.bool (portM p ⟨u0, u1, u2, u3, u4, u5⟩)) ∧ Reach w w' := by
  have hp := fun W => rport7_calls u0 u1 u2 u3 u4 u5 W
  unfold portM
  generalize ownPort ⟨u0, u1, u2, u3, u4, u5⟩ = q at *
  have HQ := Lib.hid hp
  clear hp
  by_cases p1 : p = -1
  · subst p1
    go_enter Tryz.func24, Tryz.ntmps24
    go_wp2_with (first | (go_at_call 57; (with_reducible refine Calls.mono (HQ.out _) ?_); rintro e w' ⟨rfl, hb⟩; obtain ⟨hc, hf, hz⟩ := Reach.facts hb) | (go_at_call 58; (with_reducible refine Calls.mono (rdefault_calls _ _) ?_); rintro e w' ⟨rfl, rfl⟩) | ((with_reducible refine wp_region_quiet_below (by kernel_rfl) (by kernel_rfl) ?_); (repeat (any_goals (first | (go_big_quiet_step ((first | (go_at_call 57; with_reducible exact reg_reach (HQ.out _)) | (go_at_call 58; with_reducible exact reg_pure (rdefault_calls _ _))))) | (quiet_step ((first | (go_at_call 57; with_reducible exact reg_reach (HQ.out _)) | (go_at_call 58; with_reducible exact reg_pure (rdefault_calls _ _))))) | (refine wpQuiet_step (fun K hK => ?_); go_simp; split <;> (refine hK _ ?_; clear hK K))))); all_goals (refine wpQuiet_nil ?_; intro _ hw'; obtain ⟨⟨dq, osq⟩, hw''⟩ := hw'; subst hw'')))
    go_ret
    exact ⟨ret_bool (by simp), by (repeat (first | (with_reducible assumption) | (with_reducible exact Reach.refl _) | (with_reducible refine Reach.alloc ?_ _) | (with_reducible refine Reach.drew ?_) | (with_reducible refine Reach.drewN ?_ _) | (with_reducible refine Reach.grow ?_ _ _) | (with_reducible refine Reach.setCell ?_ ?_ _) | (with_reducible refine Reach.trans ?_ (by with_reducible assumption)) | (show _ ≤ Addr.block _; first | (exact Nat.le_refl _) | (show (_ : Nat) ≤ _; omega)) | (simp; done) | (simp; omega)))⟩
  have b1 : (p == -1) = false := by simpa using p1
  by_cases p2 : p = 0
  · subst p2
    go_enter Tryz.func24, Tryz.ntmps24
    go_wp2_with (first | (go_at_call 57; (with_reducible refine Calls.mono (HQ.out _) ?_); rintro e w' ⟨rfl, hb⟩; obtain ⟨hc, hf, hz⟩ := Reach.facts hb) | (go_at_call 58; (with_reducible refine Calls.mono (rdefault_calls _ _) ?_); rintro e w' ⟨rfl, rfl⟩) | ((with_reducible refine wp_region_quiet_below (by kernel_rfl) (by kernel_rfl) ?_); (repeat (any_goals (first | (go_big_quiet_step ((first | (go_at_call 57; with_reducible exact reg_reach (HQ.out _)) | (go_at_call 58; with_reducible exact reg_pure (rdefault_calls _ _))))) | (quiet_step ((first | (go_at_call 57; with_reducible exact reg_reach (HQ.out _)) | (go_at_call 58; with_reducible exact reg_pure (rdefault_calls _ _))))) | (refine wpQuiet_step (fun K hK => ?_); go_simp; split <;> (refine hK _ ?_; clear hK K))))); all_goals (refine wpQuiet_nil ?_; intro _ hw'; obtain ⟨⟨dq, osq⟩, hw''⟩ := hw'; subst hw'')))
    go_ret
    exact ⟨ret_bool (by simp), by (repeat (first | (with_reducible assumption) | (with_reducible exact Reach.refl _) | (with_reducible refine Reach.alloc ?_ _) | (with_reducible refine Reach.drew ?_) | (with_reducible refine Reach.drewN ?_ _) | (with_reducible refine Reach.grow ?_ _ _) | (with_reducible refine Reach.setCell ?_ ?_ _) | (with_reducible refine Reach.trans ?_ (by with_reducible assumption)) | (show _ ≤ Addr.block _; first | (exact Nat.le_refl _) | (show (_ : Nat) ≤ _; omega)) | (simp; done) | (simp; omega)))⟩
  have b2 : (p == 0) = false := by simpa using p2
  rw [if_neg p1, if_neg p2]
  clear p1 p2
  cases hq : (q == p)
  rotate_left
  · go_enter Tryz.func24, Tryz.ntmps24
    go_wp2_with (first | (go_at_call 57; (with_reducible refine Calls.mono (HQ.out _) ?_); rintro e w' ⟨rfl, hb⟩; obtain ⟨hc, hf, hz⟩ := Reach.facts hb) | (go_at_call 58; (with_reducible refine Calls.mono (rdefault_calls _ _) ?_); rintro e w' ⟨rfl, rfl⟩) | ((with_reducible refine wp_region_quiet_below (by kernel_rfl) (by kernel_rfl) ?_); (repeat (any_goals (first | (go_big_quiet_step ((first | (go_at_call 57; with_reducible exact reg_reach (HQ.out _)) | (go_at_call 58; with_reducible exact reg_pure (rdefault_calls _ _))))) | (quiet_step ((first | (go_at_call 57; with_reducible exact reg_reach (HQ.out _)) | (go_at_call 58; with_reducible exact reg_pure (rdefault_calls _ _))))) | (refine wpQuiet_step (fun K hK => ?_); go_simp; split <;> (refine hK _ ?_; clear hK K))))); all_goals (refine wpQuiet_nil ?_; intro _ hw'; obtain ⟨⟨dq, osq⟩, hw''⟩ := hw'; subst hw'')))
    all_goals (go_ret; exact ⟨ret_bool (by by_cases e : p = 80 <;> simp_all), by (repeat (first | (with_reducible assumption) | (with_reducible exact Reach.refl _) | (with_reducible refine Reach.alloc ?_ _) | (with_reducible refine Reach.drew ?_) | (with_reducible refine Reach.drewN ?_ _) | (with_reducible refine Reach.grow ?_ _ _) | (with_reducible refine Reach.setCell ?_ ?_ _) | (with_reducible refine Reach.trans ?_ (by with_reducible assumption)) | (show _ ≤ Addr.block _; first | (exact Nat.le_refl _) | (show (_ : Nat) ≤ _; omega)) | (simp; done) | (simp; omega)))⟩)
  by_cases p3 : p = 80
  · subst p3
    rw [if_pos rfl]
    go_enter Tryz.func24, Tryz.ntmps24
    go_wp2_with (first | (go_at_call 57; (with_reducible refine Calls.mono (HQ.out _) ?_); rintro e w' ⟨rfl, hb⟩; obtain ⟨hc, hf, hz⟩ := Reach.facts hb) | (go_at_call 58; (with_reducible refine Calls.mono (rdefault_calls _ _) ?_); rintro e w' ⟨rfl, rfl⟩) | ((with_reducible refine wp_region_quiet_below (by kernel_rfl) (by kernel_rfl) ?_); (repeat (any_goals (first | (go_big_quiet_step ((first | (go_at_call 57; with_reducible exact reg_reach (HQ.out _)) | (go_at_call 58; with_reducible exact reg_pure (rdefault_calls _ _))))) | (quiet_step ((first | (go_at_call 57; with_reducible exact reg_reach (HQ.out _)) | (go_at_call 58; with_reducible exact reg_pure (rdefault_calls _ _))))) | (refine wpQuiet_step (fun K hK => ?_); go_simp; split <;> (refine hK _ ?_; clear hK K))))); all_goals (refine wpQuiet_nil ?_; intro _ hw'; obtain ⟨⟨dq, osq⟩, hw''⟩ := hw'; subst hw'')))
    all_goals (go_ret; exact ⟨ret_bool (by simp_all), by (repeat (first | (with_reducible assumption) | (with_reducible exact Reach.refl _) | (with_reducible refine Reach.alloc ?_ _) | (with_reducible refine Reach.drew ?_) | (with_reducible refine Reach.drewN ?_ _) | (with_reducible refine Reach.grow ?_ _ _) | (with_reducible refine Reach.setCell ?_ ?_ _) | (with_reducible refine Reach.trans ?_ (by with_reducible assumption)) | (show _ ≤ Addr.block _; first | (exact Nat.le_refl _) | (show (_ : Nat) ≤ _; omega)) | (simp; done) | (simp; omega)))⟩)
  · rw [if_neg p3]
    have b3 : (p == 80) = false := by simpa using p3
    clear p3
    go_enter Tryz.func24, Tryz.ntmps24
    go_wp2_with (first | (go_at_call 57; (with_reducible refine Calls.mono (HQ.out _) ?_); rintro e w' ⟨rfl, hb⟩; obtain ⟨hc, hf, hz⟩ := Reach.facts hb) | (go_at_call 58; (with_reducible refine Calls.mono (rdefault_calls _ _) ?_); rintro e w' ⟨rfl, rfl⟩) | ((with_reducible refine wp_region_quiet_below (by kernel_rfl) (by kernel_rfl) ?_); (repeat (any_goals (first | (go_big_quiet_step ((first | (go_at_call 57; with_reducible exact reg_reach (HQ.out _)) | (go_at_call 58; with_reducible exact reg_pure (rdefault_calls _ _))))) | (quiet_step ((first | (go_at_call 57; with_reducible exact reg_reach (HQ.out _)) | (go_at_call 58; with_reducible exact reg_pure (rdefault_calls _ _))))) | (refine wpQuiet_step (fun K hK => ?_); go_simp; split <;> (refine hK _ ?_; clear hK K))))); all_goals (refine wpQuiet_nil ?_; intro _ hw'; obtain ⟨⟨dq, osq⟩, hw''⟩ := hw'; subst hw'')))
    go_ret
    exact ⟨ret_bool (by simp), by (repeat (first | (with_reducible assumption) | (with_reducible exact Reach.refl _) | (with_reducible refine Reach.alloc ?_ _) | (with_reducible refine Reach.drew ?_) | (with_reducible refine Reach.drewN ?_ _) | (with_reducible refine Reach.grow ?_ _ _) | (with_reducible refine Reach.setCell ?_ ?_ _) | (with_reducible refine Reach.trans ?_ (by with_reducible assumption)) | (show _ ≤ Addr.block _; first | (exact Nat.le_refl _) | (show (_ : Nat) ≤ _; omega)) | (simp; done) | (simp; omega)))⟩
set_option maxRecDepth 100000 in
set_option maxHeartbeats 1000000 in
theorem rhost10_calls (k : Int) (t s h : List UInt8) (wd : Bool) (p : Int) (pa : List UInt8) (l : List UInt8) (w : World) (h1 : h.length ≤ 1000000) (h2 : l.length ≤ 1000000) :
    Calls Tryz.prog 22 #[.agg #[.int .i64 k, .string ⟨t.toArray⟩, .string ⟨s.toArray⟩, .string ⟨h.toArray⟩, .bool wd, .int .i64 p, .string ⟨pa.toArray⟩], .string ⟨l.toArray⟩] w fun e w' => e = .returned (.bool (hostM wd h l)) ∧ Reach w w' := by
  have hla := fun W => rlower_calls h W (by omega)
  have hlb := fun W => rlower_calls l W (by omega)
  have e1 := lowerL_length h
  have e2 := lowerL_length l
  have hn := fun W => ends10_calls (lowerL l) (46 :: lowerL h) W (by omega) (by simp; omega)
  unfold hostM
  generalize lowerL h = lh at *
  generalize lowerL l = ll at *
  generalize endsB ll (46 :: lh) = eb at *
  have HLA := Lib.hid hla
  have HLB := Lib.hid hlb
  have HN := Lib.hid hn
  clear hla hlb hn
  cases wd
  · have ec : (lh == ll) = (ll == lh) := Bool.beq_comm
    rw [ec]
    clear ec
    go_enter Tryz.func22, Tryz.ntmps22
    go_wp2_with (first | (go_at_call 49; (with_reducible refine Calls.mono (HLA.out _) ?_); rintro e w' ⟨rfl, hb⟩; obtain ⟨hc, hf, hz⟩ := Reach.facts hb) | (go_at_call 49; (with_reducible refine Calls.mono (HLB.out _) ?_); rintro e w' ⟨rfl, hb⟩; obtain ⟨hc, hf, hz⟩ := Reach.facts hb) | ((with_reducible refine wp_region_quiet_below (by kernel_rfl) (by kernel_rfl) ?_); (repeat (any_goals (first | (go_big_quiet_step ((first | (go_at_call 49; with_reducible exact reg_reach (HLA.out _)) | (go_at_call 49; with_reducible exact reg_reach (HLB.out _))))) | (quiet_step ((first | (go_at_call 49; with_reducible exact reg_reach (HLA.out _)) | (go_at_call 49; with_reducible exact reg_reach (HLB.out _))))) | (refine wpQuiet_step (fun K hK => ?_); go_simp; split <;> (refine hK _ ?_; clear hK K))))); all_goals (refine wpQuiet_nil ?_; intro _ hw'; obtain ⟨⟨dq, osq⟩, hw''⟩ := hw'; subst hw'')))
    go_ret
    exact ⟨ret_bool (by simp), by (repeat (first | (with_reducible assumption) | (with_reducible exact Reach.refl _) | (with_reducible refine Reach.alloc ?_ _) | (with_reducible refine Reach.drew ?_) | (with_reducible refine Reach.drewN ?_ _) | (with_reducible refine Reach.grow ?_ _ _) | (with_reducible refine Reach.setCell ?_ ?_ _) | (with_reducible refine Reach.trans ?_ (by with_reducible assumption)) | (show _ ≤ Addr.block _; first | (exact Nat.le_refl _) | (show (_ : Nat) ≤ _; omega)) | (simp; done) | (simp; omega)))⟩
  · cases lh with
    | nil =>
      go_enter Tryz.func22, Tryz.ntmps22
      go_wp2_with (first | (go_at_call 49; (with_reducible refine Calls.mono (HLA.out _) ?_); rintro e w' ⟨rfl, hb⟩; obtain ⟨hc, hf, hz⟩ := Reach.facts hb) | (go_at_call 49; (with_reducible refine Calls.mono (HLB.out _) ?_); rintro e w' ⟨rfl, hb⟩; obtain ⟨hc, hf, hz⟩ := Reach.facts hb) | ((with_reducible refine wp_region_quiet_below (by kernel_rfl) (by kernel_rfl) ?_); (repeat (any_goals (first | (go_big_quiet_step ((first | (go_at_call 49; with_reducible exact reg_reach (HLA.out _)) | (go_at_call 49; with_reducible exact reg_reach (HLB.out _))))) | (quiet_step ((first | (go_at_call 49; with_reducible exact reg_reach (HLA.out _)) | (go_at_call 49; with_reducible exact reg_reach (HLB.out _))))) | (refine wpQuiet_step (fun K hK => ?_); go_simp; split <;> (refine hK _ ?_; clear hK K))))); all_goals (refine wpQuiet_nil ?_; intro _ hw'; obtain ⟨⟨dq, osq⟩, hw''⟩ := hw'; subst hw'')))
      go_ret
      exact ⟨ret_bool (by simp), by (repeat (first | (with_reducible assumption) | (with_reducible exact Reach.refl _) | (with_reducible refine Reach.alloc ?_ _) | (with_reducible refine Reach.drew ?_) | (with_reducible refine Reach.drewN ?_ _) | (with_reducible refine Reach.grow ?_ _ _) | (with_reducible refine Reach.setCell ?_ ?_ _) | (with_reducible refine Reach.trans ?_ (by with_reducible assumption)) | (show _ ≤ Addr.block _; first | (exact Nat.le_refl _) | (show (_ : Nat) ≤ _; omega)) | (simp; done) | (simp; omega)))⟩
    | cons x xs =>
      go_enter Tryz.func22, Tryz.ntmps22
      go_wp2_with (first | (go_at_call 49; (with_reducible refine Calls.mono (HLA.out _) ?_); rintro e w' ⟨rfl, hb⟩; obtain ⟨hc, hf, hz⟩ := Reach.facts hb) | (go_at_call 49; (with_reducible refine Calls.mono (HLB.out _) ?_); rintro e w' ⟨rfl, hb⟩; obtain ⟨hc, hf, hz⟩ := Reach.facts hb) | (go_at_call 54; (with_reducible refine Calls.mono (HN.out _) ?_); rintro e w' ⟨rfl, rfl⟩) | ((with_reducible refine wp_region_quiet_below (by kernel_rfl) (by kernel_rfl) ?_); (repeat (any_goals (first | (go_big_quiet_step ((first | (go_at_call 49; with_reducible exact reg_reach (HLA.out _)) | (go_at_call 49; with_reducible exact reg_reach (HLB.out _)) | (go_at_call 54; with_reducible exact reg_pure (HN.out _))))) | (quiet_step ((first | (go_at_call 49; with_reducible exact reg_reach (HLA.out _)) | (go_at_call 49; with_reducible exact reg_reach (HLB.out _)) | (go_at_call 54; with_reducible exact reg_pure (HN.out _))))) | (refine wpQuiet_step (fun K hK => ?_); go_simp; split <;> (refine hK _ ?_; clear hK K))))); all_goals (refine wpQuiet_nil ?_; intro _ hw'; obtain ⟨⟨dq, osq⟩, hw''⟩ := hw'; subst hw'')))
      go_ret
      exact ⟨ret_bool (by simp), by (repeat (first | (with_reducible assumption) | (with_reducible exact Reach.refl _) | (with_reducible refine Reach.alloc ?_ _) | (with_reducible refine Reach.drew ?_) | (with_reducible refine Reach.drewN ?_ _) | (with_reducible refine Reach.grow ?_ _ _) | (with_reducible refine Reach.setCell ?_ ?_ _) | (with_reducible refine Reach.trans ?_ (by with_reducible assumption)) | (show _ ≤ Addr.block _; first | (exact Nat.le_refl _) | (show (_ : Nat) ≤ _; omega)) | (simp; done) | (simp; omega)))⟩
theorem prefix_take10 (l m : List UInt8) : Lib.hasPrefix l m = (decide (m.length ≤ l.length) && l.take m.length == m) := by
  unfold Lib.hasPrefix
  rw [Bool.eq_iff_iff, List.isPrefixOf_iff_prefix]
  simp only [Bool.and_eq_true, decide_eq_true_eq, beq_iff_eq]
  constructor
  · intro h
    exact ⟨h.length_le, (List.prefix_iff_eq_take.1 h).symm⟩
  · rintro ⟨_, h⟩
    exact List.prefix_iff_eq_take.2 h.symm
set_option maxRecDepth 100000 in
set_option maxHeartbeats 1000000 in
theorem rpath10_calls (told l : List UInt8) (moved : Bool) (w : World) (h1 : told.length ≤ 1000000) (_h2 : l.length ≤ 1000000) :
    Calls Tryz.prog 26 #[.string ⟨told.toArray⟩, .string ⟨l.toArray⟩, .bool moved] w fun e w' => e = .returned (.bool (pathM told l moved)) ∧ Reach w w' := by
  unfold pathM
  cases moved
  rotate_left
  · cases told
    all_goals
      go_enter Tryz.func26, Tryz.ntmps26
      go_wp2_with (first | ((with_reducible refine wp_region_quiet_below (by kernel_rfl) (by kernel_rfl) ?_); (repeat (any_goals (first | (go_big_quiet_step (fail)) | (quiet_step (fail)) | (refine wpQuiet_step (fun K hK => ?_); go_simp; split <;> (refine hK _ ?_; clear hK K))))); all_goals (refine wpQuiet_nil ?_; intro _ hw'; obtain ⟨⟨dq, osq⟩, hw''⟩ := hw'; subst hw'')))
      go_ret
      exact ⟨ret_bool (by simp), by (repeat (first | (with_reducible assumption) | (with_reducible exact Reach.refl _) | (with_reducible refine Reach.alloc ?_ _) | (with_reducible refine Reach.drew ?_) | (with_reducible refine Reach.drewN ?_ _) | (with_reducible refine Reach.grow ?_ _ _) | (with_reducible refine Reach.setCell ?_ ?_ _) | (with_reducible refine Reach.trans ?_ (by with_reducible assumption)) | (show _ ≤ Addr.block _; first | (exact Nat.le_refl _) | (show (_ : Nat) ≤ _; omega)) | (simp; done) | (simp; omega)))⟩
  cases told with
  | nil =>
    go_enter Tryz.func26, Tryz.ntmps26
    go_wp2_with (first | ((with_reducible refine wp_region_quiet_below (by kernel_rfl) (by kernel_rfl) ?_); (repeat (any_goals (first | (go_big_quiet_step (fail)) | (quiet_step (fail)) | (refine wpQuiet_step (fun K hK => ?_); go_simp; split <;> (refine hK _ ?_; clear hK K))))); all_goals (refine wpQuiet_nil ?_; intro _ hw'; obtain ⟨⟨dq, osq⟩, hw''⟩ := hw'; subst hw'')))
    go_ret
    exact ⟨ret_bool (by simp), by (repeat (first | (with_reducible assumption) | (with_reducible exact Reach.refl _) | (with_reducible refine Reach.alloc ?_ _) | (with_reducible refine Reach.drew ?_) | (with_reducible refine Reach.drewN ?_ _) | (with_reducible refine Reach.grow ?_ _ _) | (with_reducible refine Reach.setCell ?_ ?_ _) | (with_reducible refine Reach.trans ?_ (by with_reducible assumption)) | (show _ ≤ Addr.block _; first | (exact Nat.le_refl _) | (show (_ : Nat) ≤ _; omega)) | (simp; done) | (simp; omega)))⟩
  | cons x xs =>
    cases he : ((x :: xs : List UInt8) == l)
    rotate_left
    · have e2 : (l == (x :: xs : List UInt8)) = true := by simp only [beq_iff_eq] at he ⊢; exact he.symm
      go_enter Tryz.func26, Tryz.ntmps26
      go_wp2_with (first | ((with_reducible refine wp_region_quiet_below (by kernel_rfl) (by kernel_rfl) ?_); (repeat (any_goals (first | (go_big_quiet_step (fail)) | (quiet_step (fail)) | (refine wpQuiet_step (fun K hK => ?_); go_simp; split <;> (refine hK _ ?_; clear hK K))))); all_goals (refine wpQuiet_nil ?_; intro _ hw'; obtain ⟨⟨dq, osq⟩, hw''⟩ := hw'; subst hw'')))
      go_ret
      exact ⟨ret_bool (by simp), by (repeat (first | (with_reducible assumption) | (with_reducible exact Reach.refl _) | (with_reducible refine Reach.alloc ?_ _) | (with_reducible refine Reach.drew ?_) | (with_reducible refine Reach.drewN ?_ _) | (with_reducible refine Reach.grow ?_ _ _) | (with_reducible refine Reach.setCell ?_ ?_ _) | (with_reducible refine Reach.trans ?_ (by with_reducible assumption)) | (show _ ≤ Addr.block _; first | (exact Nat.le_refl _) | (show (_ : Nat) ≤ _; omega)) | (simp; done) | (simp; omega)))⟩
    have hlast : (x :: xs).getLast? = some ((x :: xs)[xs.length]'(by simp)) := by
      rw [List.getLast?_eq_getElem?]
      simp
    rw [hlast]
    have hpre := prefix_take10 l (x :: xs)
    have HP := Lib.hid hpre
    clear hpre hlast
    simp only [List.length_cons] at h1
    have gi : ((xs.length : Int) + 1 - 1) = xs.length := by omega
    by_cases hb : (x :: xs)[xs.length]'(by simp) = 47
    · have hbb : ((((x :: xs)[xs.length]'(by simp)).toNat : Int) == 47) = true := by rw [hb]; rfl
      have HB := Lib.hid hb
      clear hb
      by_cases hl : (x :: xs).length ≤ l.length
      · have hl2 : ((xs.length : Int) + 1) ≤ l.length := by simp at hl; omega
        go_enter Tryz.func26, Tryz.ntmps26
        go_wp2_with (first | ((with_reducible refine wp_region_quiet_below (by kernel_rfl) (by kernel_rfl) ?_); (repeat (any_goals (first | (go_big_quiet_step (fail)) | (quiet_step (fail)) | (refine wpQuiet_step (fun K hK => ?_); go_simp; split <;> (refine hK _ ?_; clear hK K))))); all_goals (refine wpQuiet_nil ?_; intro _ hw'; obtain ⟨⟨dq, osq⟩, hw''⟩ := hw'; subst hw'')))
        go_ret
        exact ⟨ret_bool (by rw [HP.out, HB.out]; simp at hl; simp [hl]), by (repeat (first | (with_reducible assumption) | (with_reducible exact Reach.refl _) | (with_reducible refine Reach.alloc ?_ _) | (with_reducible refine Reach.drew ?_) | (with_reducible refine Reach.drewN ?_ _) | (with_reducible refine Reach.grow ?_ _ _) | (with_reducible refine Reach.setCell ?_ ?_ _) | (with_reducible refine Reach.trans ?_ (by with_reducible assumption)) | (show _ ≤ Addr.block _; first | (exact Nat.le_refl _) | (show (_ : Nat) ≤ _; omega)) | (simp; done) | (simp; omega)))⟩
      · have hl2 : ¬ ((xs.length : Int) + 1) ≤ l.length := by simp at hl; omega
        go_enter Tryz.func26, Tryz.ntmps26
        go_wp2_with (first | ((with_reducible refine wp_region_quiet_below (by kernel_rfl) (by kernel_rfl) ?_); (repeat (any_goals (first | (go_big_quiet_step (fail)) | (quiet_step (fail)) | (refine wpQuiet_step (fun K hK => ?_); go_simp; split <;> (refine hK _ ?_; clear hK K))))); all_goals (refine wpQuiet_nil ?_; intro _ hw'; obtain ⟨⟨dq, osq⟩, hw''⟩ := hw'; subst hw'')))
        go_ret
        exact ⟨ret_bool (by rw [HP.out, HB.out]; simp at hl; simp; omega), by (repeat (first | (with_reducible assumption) | (with_reducible exact Reach.refl _) | (with_reducible refine Reach.alloc ?_ _) | (with_reducible refine Reach.drew ?_) | (with_reducible refine Reach.drewN ?_ _) | (with_reducible refine Reach.grow ?_ _ _) | (with_reducible refine Reach.setCell ?_ ?_ _) | (with_reducible refine Reach.trans ?_ (by with_reducible assumption)) | (show _ ≤ Addr.block _; first | (exact Nat.le_refl _) | (show (_ : Nat) ≤ _; omega)) | (simp; done) | (simp; omega)))⟩
    · have hbb : ((((x :: xs)[xs.length]'(by simp)).toNat : Int) == 47) = false := by
        rw [beq_eq_false_iff_ne]
        intro e
        apply hb
        apply UInt8.toNat.inj
        show ((x :: xs)[xs.length]'(by simp)).toNat = 47
        omega
      have HB := Lib.hid hb
      clear hb
      go_enter Tryz.func26, Tryz.ntmps26
      go_wp2_with (first | ((with_reducible refine wp_region_quiet_below (by kernel_rfl) (by kernel_rfl) ?_); (repeat (any_goals (first | (go_big_quiet_step (fail)) | (quiet_step (fail)) | (refine wpQuiet_step (fun K hK => ?_); go_simp; split <;> (refine hK _ ?_; clear hK K))))); all_goals (refine wpQuiet_nil ?_; intro _ hw'; obtain ⟨⟨dq, osq⟩, hw''⟩ := hw'; subst hw'')))
      go_ret
      exact ⟨ret_bool (by simp [HB.out]), by (repeat (first | (with_reducible assumption) | (with_reducible exact Reach.refl _) | (with_reducible refine Reach.alloc ?_ _) | (with_reducible refine Reach.drew ?_) | (with_reducible refine Reach.drewN ?_ _) | (with_reducible refine Reach.grow ?_ _ _) | (with_reducible refine Reach.setCell ?_ ?_ _) | (with_reducible refine Reach.trans ?_ (by with_reducible assumption)) | (show _ ≤ Addr.block _; first | (exact Nat.le_refl _) | (show (_ : Nat) ≤ _; omega)) | (simp; done) | (simp; omega)))⟩
end Go.Proofs.YtbeaheicjopooaaGreatDoor
