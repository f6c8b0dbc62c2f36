/- What package match's small functions answer: schemes, hosts, ports, paths; texts of at most a million bytes. -/
import Derived.Test.YtbeaheicjopooaaGreatDoorProg
import Derived.Test.YtbeaheicjopooaaGreatDoorOrig
import Derived.Test.YtbeaheicjopooaaGreatDoorPureG
import Derived.Test.YtbeaheicjopooaaGreatDoorStrs
import Derived.Test.YtbeaheicjopooaaGreatDoorFold
namespace Go.Proofs.YtbeaheicjopooaaGreatDoor
open Go.RowKit Go.Sort
attribute [local go_sem] get_mk mk_append mk_extract0 mk_extract_end mk_extract_cons empty_mk cell_grow frozen_grow size_grow
/-- A source as a value. -/
def srcV (s : Src) : Value := .agg #[.int .i64 s.kind, .string ⟨s.text.toArray⟩, .string ⟨s.sch.toArray⟩, .string ⟨s.host.toArray⟩, .bool s.wild, .int .i64 s.port, .string ⟨s.path.toArray⟩]
set_option maxHeartbeats 1000000 in
theorem mscheme_calls (told l : List UInt8) (w : World) (_hs : told.length ≤ 1000000) : Calls Tryz.prog 19 #[.string ⟨told.toArray⟩, .string ⟨l.toArray⟩] w fun e w' => e = .returned (.bool (schM told l)) ∧ w = w' := by
  go_enter Tryz.func19, Tryz.ntmps19
  go_wp2_with (first | ((with_reducible refine wp_region_quiet_below (by kernel_rfl) (by kernel_rfl) ?_); (repeat (any_goals (first | (go_big_quiet_step (fail)) | (quiet_step (fail)) | (refine wpQuiet_step (fun K hK => ?_); go_simp; split <;> (refine hK _ ?_; clear hK K))))); all_goals (refine wpQuiet_nil ?_; intro _ hw'; obtain ⟨⟨dq, osq⟩, hw''⟩ := hw'; subst hw'')))
  all_goals (go_ret; exact ⟨ret_bool (by first | (simp_all [schM]; done) | (simp_all [schM]; intros; omega) | (rw [Bool.eq_iff_iff]; simp_all [schM]; intros; omega)), rfl⟩)
set_option maxHeartbeats 400000 in
theorem mport_calls (o : Bool) (a b : List UInt8) (n : Int) (c d : List UInt8) (w : World) :
    Calls Tryz.prog 55 #[.agg #[.bool o, .string ⟨a.toArray⟩, .string ⟨b.toArray⟩, .int .i64 n, .string ⟨c.toArray⟩, .string ⟨d.toArray⟩]] w fun e w' => e = .returned (.int .i64 (ownPort ⟨o, a, b, n, c, d⟩)) ∧ Reach w w' := by
  by_cases h0 : n = 0
  · subst h0
    go_enter Tryz.func55, Tryz.ntmps55
    go_wp2_with (first | (go_at_call 56; (with_reducible refine Calls.mono (default_calls _ _) ?_); rintro e w' ⟨rfl, rfl⟩) | ((with_reducible refine wp_region_quiet_below (by kernel_rfl) (by kernel_rfl) ?_); (repeat (any_goals (first | (go_big_quiet_step ((first | (go_at_call 56; with_reducible exact reg_pure (default_calls _ _))))) | (quiet_step ((first | (go_at_call 56; with_reducible exact reg_pure (default_calls _ _))))) | (refine wpQuiet_step (fun K hK => ?_); go_simp; split <;> (refine hK _ ?_; clear hK K))))); all_goals (refine wpQuiet_nil ?_; intro _ hw'; obtain ⟨⟨dq, osq⟩, hw''⟩ := hw'; subst hw'')))
    go_ret
    exact ⟨ret_int (by simp [ownPort]), by (repeat (first | (with_reducible assumption) | (with_reducible exact Reach.refl _) | (with_reducible refine Reach.alloc ?_ _) | (with_reducible refine Reach.drew ?_) | (with_reducible refine Reach.drewN ?_ _) | (with_reducible refine Reach.grow ?_ _ _) | (with_reducible refine Reach.setCell ?_ ?_ _) | (with_reducible refine Reach.trans ?_ (by with_reducible assumption)) | (show _ ≤ Addr.block _; first | (exact Nat.le_refl _) | (show (_ : Nat) ≤ _; omega)) | (simp; done) | (simp; omega)))⟩
  · have hb0 : (n != 0) = true := by simp [h0]
    go_enter Tryz.func55, Tryz.ntmps55
    go_wp2_with (first | (go_at_call 56; (with_reducible refine Calls.mono (default_calls _ _) ?_); rintro e w' ⟨rfl, rfl⟩) | ((with_reducible refine wp_region_quiet_below (by kernel_rfl) (by kernel_rfl) ?_); (repeat (any_goals (first | (go_big_quiet_step ((first | (go_at_call 56; with_reducible exact reg_pure (default_calls _ _))))) | (quiet_step ((first | (go_at_call 56; with_reducible exact reg_pure (default_calls _ _))))) | (refine wpQuiet_step (fun K hK => ?_); go_simp; split <;> (refine hK _ ?_; clear hK K))))); all_goals (refine wpQuiet_nil ?_; intro _ hw'; obtain ⟨⟨dq, osq⟩, hw''⟩ := hw'; subst hw'')))
    go_ret
    exact ⟨ret_int (by simp [ownPort, h0]), by (repeat (first | (with_reducible assumption) | (with_reducible exact Reach.refl _) | (with_reducible refine Reach.alloc ?_ _) | (with_reducible refine Reach.drew ?_) | (with_reducible refine Reach.drewN ?_ _) | (with_reducible refine Reach.grow ?_ _ _) | (with_reducible refine Reach.setCell ?_ ?_ _) | (with_reducible refine Reach.trans ?_ (by with_reducible assumption)) | (show _ ≤ Addr.block _; first | (exact Nat.le_refl _) | (show (_ : Nat) ≤ _; omega)) | (simp; done) | (simp; omega)))⟩
set_option maxRecDepth 100000 in
set_option maxHeartbeats 1000000 in
theorem mportM_calls (k : Int) (t s h : List UInt8) (wd : Bool) (p : Int) (pa : List UInt8) (o : Bool) (a b : List UInt8) (n : Int) (c d : List UInt8) (w : World) :
    Calls Tryz.prog 23 #[.agg #[.int .i64 k, .string ⟨t.toArray⟩, .string ⟨s.toArray⟩, .string ⟨h.toArray⟩, .bool wd, .int .i64 p, .string ⟨pa.toArray⟩], .agg #[.bool o, .string ⟨a.toArray⟩, .string ⟨b.toArray⟩, .int .i64 n, .string ⟨c.toArray⟩, .string ⟨d.toArray⟩]] w
      fun e w' => e = .returned (.bool (portM p ⟨o, a, b, n, c, d⟩)) ∧ Reach w w' := by
  by_cases p1 : p = -1
  · subst p1
    go_enter Tryz.func23, Tryz.ntmps23
    go_wp2_with (first | (go_at_call 55; (with_reducible refine Calls.mono (mport_calls _ _ _ _ _ _ _) ?_); rintro e w' ⟨rfl, hb⟩; obtain ⟨hc, hf, hz⟩ := Reach.facts hb) | (go_at_call 56; (with_reducible refine Calls.mono (default_calls _ _) ?_); rintro e w' ⟨rfl, rfl⟩) | ((with_reducible refine wp_region_quiet_below (by kernel_rfl) (by kernel_rfl) ?_); (repeat (any_goals (first | (go_big_quiet_step ((first | (go_at_call 55; with_reducible exact reg_reach (mport_calls _ _ _ _ _ _ _)) | (go_at_call 56; with_reducible exact reg_pure (default_calls _ _))))) | (quiet_step ((first | (go_at_call 55; with_reducible exact reg_reach (mport_calls _ _ _ _ _ _ _)) | (go_at_call 56; with_reducible exact reg_pure (default_calls _ _))))) | (refine wpQuiet_step (fun K hK => ?_); go_simp; split <;> (refine hK _ ?_; clear hK K))))); all_goals (refine wpQuiet_nil ?_; intro _ hw'; obtain ⟨⟨dq, osq⟩, hw''⟩ := hw'; subst hw'')))
    go_ret
    exact ⟨ret_bool (by simp [portM]), by (repeat (first | (with_reducible assumption) | (with_reducible exact Reach.refl _) | (with_reducible refine Reach.alloc ?_ _) | (with_reducible refine Reach.drew ?_) | (with_reducible refine Reach.drewN ?_ _) | (with_reducible refine Reach.grow ?_ _ _) | (with_reducible refine Reach.setCell ?_ ?_ _) | (with_reducible refine Reach.trans ?_ (by with_reducible assumption)) | (show _ ≤ Addr.block _; first | (exact Nat.le_refl _) | (show (_ : Nat) ≤ _; omega)) | (simp; done) | (simp; omega)))⟩
  have b1 : (p == -1) = false := by simpa using p1
  by_cases p2 : p = 0
  · subst p2
    go_enter Tryz.func23, Tryz.ntmps23
    go_wp2_with (first | (go_at_call 55; (with_reducible refine Calls.mono (mport_calls _ _ _ _ _ _ _) ?_); rintro e w' ⟨rfl, hb⟩; obtain ⟨hc, hf, hz⟩ := Reach.facts hb) | (go_at_call 56; (with_reducible refine Calls.mono (default_calls _ _) ?_); rintro e w' ⟨rfl, rfl⟩) | ((with_reducible refine wp_region_quiet_below (by kernel_rfl) (by kernel_rfl) ?_); (repeat (any_goals (first | (go_big_quiet_step ((first | (go_at_call 55; with_reducible exact reg_reach (mport_calls _ _ _ _ _ _ _)) | (go_at_call 56; with_reducible exact reg_pure (default_calls _ _))))) | (quiet_step ((first | (go_at_call 55; with_reducible exact reg_reach (mport_calls _ _ _ _ _ _ _)) | (go_at_call 56; with_reducible exact reg_pure (default_calls _ _))))) | (refine wpQuiet_step (fun K hK => ?_); go_simp; split <;> (refine hK _ ?_; clear hK K))))); all_goals (refine wpQuiet_nil ?_; intro _ hw'; obtain ⟨⟨dq, osq⟩, hw''⟩ := hw'; subst hw'')))
    go_ret
    exact ⟨ret_bool (by simp [portM]), by (repeat (first | (with_reducible assumption) | (with_reducible exact Reach.refl _) | (with_reducible refine Reach.alloc ?_ _) | (with_reducible refine Reach.drew ?_) | (with_reducible refine Reach.drewN ?_ _) | (with_reducible refine Reach.grow ?_ _ _) | (with_reducible refine Reach.setCell ?_ ?_ _) | (with_reducible refine Reach.trans ?_ (by with_reducible assumption)) | (show _ ≤ Addr.block _; first | (exact Nat.le_refl _) | (show (_ : Nat) ≤ _; omega)) | (simp; done) | (simp; omega)))⟩
  have b2 : (p == 0) = false := by simpa using p2
  by_cases p3 : p = 80
  · subst p3
    cases q : (ownPort ⟨o, a, b, n, c, d⟩ == 80)
    · go_enter Tryz.func23, Tryz.ntmps23
      go_wp2_with (first | (go_at_call 55; (with_reducible refine Calls.mono (mport_calls _ _ _ _ _ _ _) ?_); rintro e w' ⟨rfl, hb⟩; obtain ⟨hc, hf, hz⟩ := Reach.facts hb) | (go_at_call 56; (with_reducible refine Calls.mono (default_calls _ _) ?_); rintro e w' ⟨rfl, rfl⟩) | ((with_reducible refine wp_region_quiet_below (by kernel_rfl) (by kernel_rfl) ?_); (repeat (any_goals (first | (go_big_quiet_step ((first | (go_at_call 55; with_reducible exact reg_reach (mport_calls _ _ _ _ _ _ _)) | (go_at_call 56; with_reducible exact reg_pure (default_calls _ _))))) | (quiet_step ((first | (go_at_call 55; with_reducible exact reg_reach (mport_calls _ _ _ _ _ _ _)) | (go_at_call 56; with_reducible exact reg_pure (default_calls _ _))))) | (refine wpQuiet_step (fun K hK => ?_); go_simp; split <;> (refine hK _ ?_; clear hK K))))); all_goals (refine wpQuiet_nil ?_; intro _ hw'; obtain ⟨⟨dq, osq⟩, hw''⟩ := hw'; subst hw'')))
      go_ret
      exact ⟨ret_bool (by simp [portM, q]), by (repeat (first | (with_reducible assumption) | (with_reducible exact Reach.refl _) | (with_reducible refine Reach.alloc ?_ _) | (with_reducible refine Reach.drew ?_) | (with_reducible refine Reach.drewN ?_ _) | (with_reducible refine Reach.grow ?_ _ _) | (with_reducible refine Reach.setCell ?_ ?_ _) | (with_reducible refine Reach.trans ?_ (by with_reducible assumption)) | (show _ ≤ Addr.block _; first | (exact Nat.le_refl _) | (show (_ : Nat) ≤ _; omega)) | (simp; done) | (simp; omega)))⟩
    · go_enter Tryz.func23, Tryz.ntmps23
      go_wp2_with (first | (go_at_call 55; (with_reducible refine Calls.mono (mport_calls _ _ _ _ _ _ _) ?_); rintro e w' ⟨rfl, hb⟩; obtain ⟨hc, hf, hz⟩ := Reach.facts hb) | (go_at_call 56; (with_reducible refine Calls.mono (default_calls _ _) ?_); rintro e w' ⟨rfl, rfl⟩) | ((with_reducible refine wp_region_quiet_below (by kernel_rfl) (by kernel_rfl) ?_); (repeat (any_goals (first | (go_big_quiet_step ((first | (go_at_call 55; with_reducible exact reg_reach (mport_calls _ _ _ _ _ _ _)) | (go_at_call 56; with_reducible exact reg_pure (default_calls _ _))))) | (quiet_step ((first | (go_at_call 55; with_reducible exact reg_reach (mport_calls _ _ _ _ _ _ _)) | (go_at_call 56; with_reducible exact reg_pure (default_calls _ _))))) | (refine wpQuiet_step (fun K hK => ?_); go_simp; split <;> (refine hK _ ?_; clear hK K))))); all_goals (refine wpQuiet_nil ?_; intro _ hw'; obtain ⟨⟨dq, osq⟩, hw''⟩ := hw'; subst hw'')))
      go_ret
      exact ⟨ret_bool (by simp [portM, q]), by (repeat (first | (with_reducible assumption) | (with_reducible exact Reach.refl _) | (with_reducible refine Reach.alloc ?_ _) | (with_reducible refine Reach.drew ?_) | (with_reducible refine Reach.drewN ?_ _) | (with_reducible refine Reach.grow ?_ _ _) | (with_reducible refine Reach.setCell ?_ ?_ _) | (with_reducible refine Reach.trans ?_ (by with_reducible assumption)) | (show _ ≤ Addr.block _; first | (exact Nat.le_refl _) | (show (_ : Nat) ≤ _; omega)) | (simp; done) | (simp; omega)))⟩
  have b3 : (p == 80) = false := by simpa using p3
  have HP : RowKit.Hid (portM p ⟨o, a, b, n, c, d⟩ = (ownPort ⟨o, a, b, n, c, d⟩ == p)) := by
    unfold portM
    rw [if_neg p1, if_neg p2, if_neg p3]
    rfl
  clear p1 p2 p3
  go_enter Tryz.func23, Tryz.ntmps23
  go_wp2_with (first | (go_at_call 55; (with_reducible refine Calls.mono (mport_calls _ _ _ _ _ _ _) ?_); rintro e w' ⟨rfl, hb⟩; obtain ⟨hc, hf, hz⟩ := Reach.facts hb) | (go_at_call 56; (with_reducible refine Calls.mono (default_calls _ _) ?_); rintro e w' ⟨rfl, rfl⟩) | ((with_reducible refine wp_region_quiet_below (by kernel_rfl) (by kernel_rfl) ?_); (repeat (any_goals (first | (go_big_quiet_step ((first | (go_at_call 55; with_reducible exact reg_reach (mport_calls _ _ _ _ _ _ _)) | (go_at_call 56; with_reducible exact reg_pure (default_calls _ _))))) | (quiet_step ((first | (go_at_call 55; with_reducible exact reg_reach (mport_calls _ _ _ _ _ _ _)) | (go_at_call 56; with_reducible exact reg_pure (default_calls _ _))))) | (refine wpQuiet_step (fun K hK => ?_); go_simp; split <;> (refine hK _ ?_; clear hK K))))); all_goals (refine wpQuiet_nil ?_; intro _ hw'; obtain ⟨⟨dq, osq⟩, hw''⟩ := hw'; subst hw'')))
  go_ret
  exact ⟨ret_bool HP.out.symm, by (repeat (first | (with_reducible assumption) | (with_reducible exact Reach.refl _) | (with_reducible refine Reach.alloc ?_ _) | (with_reducible refine Reach.drew ?_) | (with_reducible refine Reach.drewN ?_ _) | (with_reducible refine Reach.grow ?_ _ _) | (with_reducible refine Reach.setCell ?_ ?_ _) | (with_reducible refine Reach.trans ?_ (by with_reducible assumption)) | (show _ ≤ Addr.block _; first | (exact Nat.le_refl _) | (show (_ : Nat) ≤ _; omega)) | (simp; done) | (simp; omega)))⟩
set_option maxRecDepth 100000 in
set_option maxHeartbeats 1000000 in
theorem mhost_calls (k : Int) (t s h : List UInt8) (wd : Bool) (p : Int) (pa l : List UInt8) (w : World) (h1 : h.length ≤ 1000000) (h2 : l.length ≤ 1000000) :
    Calls Tryz.prog 21 #[.agg #[.int .i64 k, .string ⟨t.toArray⟩, .string ⟨s.toArray⟩, .string ⟨h.toArray⟩, .bool wd, .int .i64 p, .string ⟨pa.toArray⟩], .string ⟨l.toArray⟩] w
      fun e w' => e = .returned (.bool (hostM wd h l)) ∧ Reach w w' := by
  have hla := fun W => lower_calls h W (by omega)
  have hlb := fun W => lower_calls l W (by omega)
  have e1 := lowerL_length h
  have e2 := lowerL_length l
  unfold hostM
  generalize lowerL h = lh at *
  generalize lowerL l = ll at *
  have HLA := Lib.hid hla
  have HLB := Lib.hid hlb
  clear hla hlb
  cases wd
  · go_enter Tryz.func21, Tryz.ntmps21
    go_wp2_with (first | (go_at_call 46; (with_reducible refine Calls.mono (HLA.out _) ?_); rintro e w' ⟨rfl, hb⟩; obtain ⟨hc, hf, hz⟩ := Reach.facts hb) | (go_at_call 46; (with_reducible refine Calls.mono (HLB.out _) ?_); rintro e w' ⟨rfl, hb⟩; obtain ⟨hc, hf, hz⟩ := Reach.facts hb) | ((with_reducible refine wp_region_quiet_below (by kernel_rfl) (by kernel_rfl) ?_); (repeat (any_goals (first | (go_big_quiet_step ((first | (go_at_call 46; with_reducible exact reg_reach (HLA.out _)) | (go_at_call 46; with_reducible exact reg_reach (HLB.out _))))) | (quiet_step ((first | (go_at_call 46; with_reducible exact reg_reach (HLA.out _)) | (go_at_call 46; with_reducible exact reg_reach (HLB.out _))))) | (refine wpQuiet_step (fun K hK => ?_); go_simp; split <;> (refine hK _ ?_; clear hK K))))); all_goals (refine wpQuiet_nil ?_; intro _ hw'; obtain ⟨⟨dq, osq⟩, hw''⟩ := hw'; subst hw'')))
    go_ret
    exact ⟨ret_bool (by simp), by (repeat (first | (with_reducible assumption) | (with_reducible exact Reach.refl _) | (with_reducible refine Reach.alloc ?_ _) | (with_reducible refine Reach.drew ?_) | (with_reducible refine Reach.drewN ?_ _) | (with_reducible refine Reach.grow ?_ _ _) | (with_reducible refine Reach.setCell ?_ ?_ _) | (with_reducible refine Reach.trans ?_ (by with_reducible assumption)) | (show _ ≤ Addr.block _; first | (exact Nat.le_refl _) | (show (_ : Nat) ≤ _; omega)) | (simp; done) | (simp; omega)))⟩
  · cases lh with
    | nil =>
      go_enter Tryz.func21, Tryz.ntmps21
      go_wp2_with (first | (go_at_call 46; (with_reducible refine Calls.mono (HLA.out _) ?_); rintro e w' ⟨rfl, hb⟩; obtain ⟨hc, hf, hz⟩ := Reach.facts hb) | (go_at_call 46; (with_reducible refine Calls.mono (HLB.out _) ?_); rintro e w' ⟨rfl, hb⟩; obtain ⟨hc, hf, hz⟩ := Reach.facts hb) | ((with_reducible refine wp_region_quiet_below (by kernel_rfl) (by kernel_rfl) ?_); (repeat (any_goals (first | (go_big_quiet_step ((first | (go_at_call 46; with_reducible exact reg_reach (HLA.out _)) | (go_at_call 46; with_reducible exact reg_reach (HLB.out _))))) | (quiet_step ((first | (go_at_call 46; with_reducible exact reg_reach (HLA.out _)) | (go_at_call 46; with_reducible exact reg_reach (HLB.out _))))) | (refine wpQuiet_step (fun K hK => ?_); go_simp; split <;> (refine hK _ ?_; clear hK K))))); all_goals (refine wpQuiet_nil ?_; intro _ hw'; obtain ⟨⟨dq, osq⟩, hw''⟩ := hw'; subst hw'')))
      go_ret
      exact ⟨ret_bool (by simp), by (repeat (first | (with_reducible assumption) | (with_reducible exact Reach.refl _) | (with_reducible refine Reach.alloc ?_ _) | (with_reducible refine Reach.drew ?_) | (with_reducible refine Reach.drewN ?_ _) | (with_reducible refine Reach.grow ?_ _ _) | (with_reducible refine Reach.setCell ?_ ?_ _) | (with_reducible refine Reach.trans ?_ (by with_reducible assumption)) | (show _ ≤ Addr.block _; first | (exact Nat.le_refl _) | (show (_ : Nat) ≤ _; omega)) | (simp; done) | (simp; omega)))⟩
    | cons x xs =>
      have hc := fun W => cutSuf_calls ll (46 :: x :: xs) W (by omega)
      cases hsuf : Lib.hasSuffix ll (46 :: x :: xs)
      · rw [hsuf] at hc
        have HC := Lib.hid hc
        have HS := Lib.hid hsuf
        clear hc hsuf
        go_enter Tryz.func21, Tryz.ntmps21
        go_wp2_with (first | (go_at_call 46; (with_reducible refine Calls.mono (HLA.out _) ?_); rintro e w' ⟨rfl, hb⟩; obtain ⟨hc, hf, hz⟩ := Reach.facts hb) | (go_at_call 46; (with_reducible refine Calls.mono (HLB.out _) ?_); rintro e w' ⟨rfl, hb⟩; obtain ⟨hc, hf, hz⟩ := Reach.facts hb) | (go_at_call 53; (with_reducible refine Calls.mono (HC.out _) ?_); rintro e w' ⟨rfl, rfl⟩) | ((with_reducible refine wp_region_quiet_below (by kernel_rfl) (by kernel_rfl) ?_); (repeat (any_goals (first | (go_big_quiet_step ((first | (go_at_call 46; with_reducible exact reg_reach (HLA.out _)) | (go_at_call 46; with_reducible exact reg_reach (HLB.out _)) | (go_at_call 53; with_reducible exact reg_pure (HC.out _))))) | (quiet_step ((first | (go_at_call 46; with_reducible exact reg_reach (HLA.out _)) | (go_at_call 46; with_reducible exact reg_reach (HLB.out _)) | (go_at_call 53; with_reducible exact reg_pure (HC.out _))))) | (refine wpQuiet_step (fun K hK => ?_); go_simp; split <;> (refine hK _ ?_; clear hK K))))); all_goals (refine wpQuiet_nil ?_; intro _ hw'; obtain ⟨⟨dq, osq⟩, hw''⟩ := hw'; subst hw'')))
        go_ret
        exact ⟨ret_bool (by rw [endsB_suffix, HS.out]; simp), by (repeat (first | (with_reducible assumption) | (with_reducible exact Reach.refl _) | (with_reducible refine Reach.alloc ?_ _) | (with_reducible refine Reach.drew ?_) | (with_reducible refine Reach.drewN ?_ _) | (with_reducible refine Reach.grow ?_ _ _) | (with_reducible refine Reach.setCell ?_ ?_ _) | (with_reducible refine Reach.trans ?_ (by with_reducible assumption)) | (show _ ≤ Addr.block _; first | (exact Nat.le_refl _) | (show (_ : Nat) ≤ _; omega)) | (simp; done) | (simp; omega)))⟩
      · rw [hsuf] at hc
        cases hf : Lib.trimSuffix ll (46 :: x :: xs) with
        | nil =>
          rw [hf] at hc
          have HC := Lib.hid hc
          have HS := Lib.hid hsuf
          have HF := Lib.hid hf
          clear hc hsuf hf
          go_enter Tryz.func21, Tryz.ntmps21
          go_wp2_with (first | (go_at_call 46; (with_reducible refine Calls.mono (HLA.out _) ?_); rintro e w' ⟨rfl, hb⟩; obtain ⟨hc, hf, hz⟩ := Reach.facts hb) | (go_at_call 46; (with_reducible refine Calls.mono (HLB.out _) ?_); rintro e w' ⟨rfl, hb⟩; obtain ⟨hc, hf, hz⟩ := Reach.facts hb) | (go_at_call 53; (with_reducible refine Calls.mono (HC.out _) ?_); rintro e w' ⟨rfl, rfl⟩) | ((with_reducible refine wp_region_quiet_below (by kernel_rfl) (by kernel_rfl) ?_); (repeat (any_goals (first | (go_big_quiet_step ((first | (go_at_call 46; with_reducible exact reg_reach (HLA.out _)) | (go_at_call 46; with_reducible exact reg_reach (HLB.out _)) | (go_at_call 53; with_reducible exact reg_pure (HC.out _))))) | (quiet_step ((first | (go_at_call 46; with_reducible exact reg_reach (HLA.out _)) | (go_at_call 46; with_reducible exact reg_reach (HLB.out _)) | (go_at_call 53; with_reducible exact reg_pure (HC.out _))))) | (refine wpQuiet_step (fun K hK => ?_); go_simp; split <;> (refine hK _ ?_; clear hK K))))); all_goals (refine wpQuiet_nil ?_; intro _ hw'; obtain ⟨⟨dq, osq⟩, hw''⟩ := hw'; subst hw'')))
          go_ret
          exact ⟨ret_bool (by rw [endsB_suffix, HS.out, HF.out]; simp), by (repeat (first | (with_reducible assumption) | (with_reducible exact Reach.refl _) | (with_reducible refine Reach.alloc ?_ _) | (with_reducible refine Reach.drew ?_) | (with_reducible refine Reach.drewN ?_ _) | (with_reducible refine Reach.grow ?_ _ _) | (with_reducible refine Reach.setCell ?_ ?_ _) | (with_reducible refine Reach.trans ?_ (by with_reducible assumption)) | (show _ ≤ Addr.block _; first | (exact Nat.le_refl _) | (show (_ : Nat) ≤ _; omega)) | (simp; done) | (simp; omega)))⟩
        | cons y ys =>
          rw [hf] at hc
          have HC := Lib.hid hc
          have HS := Lib.hid hsuf
          have HF := Lib.hid hf
          clear hc hsuf hf
          go_enter Tryz.func21, Tryz.ntmps21
          go_wp2_with (first | (go_at_call 46; (with_reducible refine Calls.mono (HLA.out _) ?_); rintro e w' ⟨rfl, hb⟩; obtain ⟨hc, hf, hz⟩ := Reach.facts hb) | (go_at_call 46; (with_reducible refine Calls.mono (HLB.out _) ?_); rintro e w' ⟨rfl, hb⟩; obtain ⟨hc, hf, hz⟩ := Reach.facts hb) | (go_at_call 53; (with_reducible refine Calls.mono (HC.out _) ?_); rintro e w' ⟨rfl, rfl⟩) | ((with_reducible refine wp_region_quiet_below (by kernel_rfl) (by kernel_rfl) ?_); (repeat (any_goals (first | (go_big_quiet_step ((first | (go_at_call 46; with_reducible exact reg_reach (HLA.out _)) | (go_at_call 46; with_reducible exact reg_reach (HLB.out _)) | (go_at_call 53; with_reducible exact reg_pure (HC.out _))))) | (quiet_step ((first | (go_at_call 46; with_reducible exact reg_reach (HLA.out _)) | (go_at_call 46; with_reducible exact reg_reach (HLB.out _)) | (go_at_call 53; with_reducible exact reg_pure (HC.out _))))) | (refine wpQuiet_step (fun K hK => ?_); go_simp; split <;> (refine hK _ ?_; clear hK K))))); all_goals (refine wpQuiet_nil ?_; intro _ hw'; obtain ⟨⟨dq, osq⟩, hw''⟩ := hw'; subst hw'')))
          go_ret
          exact ⟨ret_bool (by rw [endsB_suffix, HS.out, HF.out]; simp), by (repeat (first | (with_reducible assumption) | (with_reducible exact Reach.refl _) | (with_reducible refine Reach.alloc ?_ _) | (with_reducible refine Reach.drew ?_) | (with_reducible refine Reach.drewN ?_ _) | (with_reducible refine Reach.grow ?_ _ _) | (with_reducible refine Reach.setCell ?_ ?_ _) | (with_reducible refine Reach.trans ?_ (by with_reducible assumption)) | (show _ ≤ Addr.block _; first | (exact Nat.le_refl _) | (show (_ : Nat) ≤ _; omega)) | (simp; done) | (simp; omega)))⟩
set_option maxRecDepth 100000 in
set_option maxHeartbeats 1000000 in
theorem mpath_calls (told l : List UInt8) (moved : Bool) (w : World) (h1 : told.length ≤ 1000000) (_h2 : l.length ≤ 1000000) :
    Calls Tryz.prog 25 #[.string ⟨told.toArray⟩, .string ⟨l.toArray⟩, .bool moved] w fun e w' => e = .returned (.bool (pathM told l moved)) ∧ Reach w w' := by
  unfold pathM
  cases moved
  rotate_left
  · go_enter Tryz.func25, Tryz.ntmps25
    go_wp2_with (first | ((with_reducible refine wp_region_quiet_below (by kernel_rfl) (by kernel_rfl) ?_); (repeat (any_goals (first | (go_big_quiet_step (fail)) | (quiet_step (fail)) | (refine wpQuiet_step (fun K hK => ?_); go_simp; split <;> (refine hK _ ?_; clear hK K))))); all_goals (refine wpQuiet_nil ?_; intro _ hw'; obtain ⟨⟨dq, osq⟩, hw''⟩ := hw'; subst hw'')))
    go_ret
    exact ⟨ret_bool (by simp), by (repeat (first | (with_reducible assumption) | (with_reducible exact Reach.refl _) | (with_reducible refine Reach.alloc ?_ _) | (with_reducible refine Reach.drew ?_) | (with_reducible refine Reach.drewN ?_ _) | (with_reducible refine Reach.grow ?_ _ _) | (with_reducible refine Reach.setCell ?_ ?_ _) | (with_reducible refine Reach.trans ?_ (by with_reducible assumption)) | (show _ ≤ Addr.block _; first | (exact Nat.le_refl _) | (show (_ : Nat) ≤ _; omega)) | (simp; done) | (simp; omega)))⟩
  cases told with
  | nil =>
    go_enter Tryz.func25, Tryz.ntmps25
    go_wp2_with (first | ((with_reducible refine wp_region_quiet_below (by kernel_rfl) (by kernel_rfl) ?_); (repeat (any_goals (first | (go_big_quiet_step (fail)) | (quiet_step (fail)) | (refine wpQuiet_step (fun K hK => ?_); go_simp; split <;> (refine hK _ ?_; clear hK K))))); all_goals (refine wpQuiet_nil ?_; intro _ hw'; obtain ⟨⟨dq, osq⟩, hw''⟩ := hw'; subst hw'')))
    go_ret
    exact ⟨ret_bool (by simp), by (repeat (first | (with_reducible assumption) | (with_reducible exact Reach.refl _) | (with_reducible refine Reach.alloc ?_ _) | (with_reducible refine Reach.drew ?_) | (with_reducible refine Reach.drewN ?_ _) | (with_reducible refine Reach.grow ?_ _ _) | (with_reducible refine Reach.setCell ?_ ?_ _) | (with_reducible refine Reach.trans ?_ (by with_reducible assumption)) | (show _ ≤ Addr.block _; first | (exact Nat.le_refl _) | (show (_ : Nat) ≤ _; omega)) | (simp; done) | (simp; omega)))⟩
  | cons x xs =>
    have hs := fun W => hasSuf_calls (x :: xs) [47] W (by omega)
    have hp := fun W => hasPre2_calls l (x :: xs) W
    rw [suffix_slash] at hs
    have hn : ((x :: xs : List UInt8) == []) = false := rfl
    rw [hn]
    clear hn
    generalize ((x :: xs).getLast? == some 47) = sb at *
    generalize Lib.hasPrefix l (x :: xs) = pb at *
    cases he : ((x :: xs : List UInt8) == l)
    · cases sb
      · have HS := Lib.hid hs
        have HP := Lib.hid hp
        clear hs hp
        go_enter Tryz.func25, Tryz.ntmps25
        go_wp2_with (first | (go_at_call 59; (with_reducible refine Calls.mono (HS.out _) ?_); rintro e w' ⟨rfl, rfl⟩) | (go_at_call 47; (with_reducible refine Calls.mono (HP.out _) ?_); rintro e w' ⟨rfl, rfl⟩) | ((with_reducible refine wp_region_quiet_below (by kernel_rfl) (by kernel_rfl) ?_); (repeat (any_goals (first | (go_big_quiet_step ((first | (go_at_call 59; with_reducible exact reg_pure (HS.out _)) | (go_at_call 47; with_reducible exact reg_pure (HP.out _))))) | (quiet_step ((first | (go_at_call 59; with_reducible exact reg_pure (HS.out _)) | (go_at_call 47; with_reducible exact reg_pure (HP.out _))))) | (refine wpQuiet_step (fun K hK => ?_); go_simp; split <;> (refine hK _ ?_; clear hK K))))); all_goals (refine wpQuiet_nil ?_; intro _ hw'; obtain ⟨⟨dq, osq⟩, hw''⟩ := hw'; subst hw'')))
        go_ret
        exact ⟨ret_bool (by simp), by (repeat (first | (with_reducible assumption) | (with_reducible exact Reach.refl _) | (with_reducible refine Reach.alloc ?_ _) | (with_reducible refine Reach.drew ?_) | (with_reducible refine Reach.drewN ?_ _) | (with_reducible refine Reach.grow ?_ _ _) | (with_reducible refine Reach.setCell ?_ ?_ _) | (with_reducible refine Reach.trans ?_ (by with_reducible assumption)) | (show _ ≤ Addr.block _; first | (exact Nat.le_refl _) | (show (_ : Nat) ≤ _; omega)) | (simp; done) | (simp; omega)))⟩
      · have HS := Lib.hid hs
        have HP := Lib.hid hp
        clear hs hp
        go_enter Tryz.func25, Tryz.ntmps25
        go_wp2_with (first | (go_at_call 59; (with_reducible refine Calls.mono (HS.out _) ?_); rintro e w' ⟨rfl, rfl⟩) | (go_at_call 47; (with_reducible refine Calls.mono (HP.out _) ?_); rintro e w' ⟨rfl, rfl⟩) | ((with_reducible refine wp_region_quiet_below (by kernel_rfl) (by kernel_rfl) ?_); (repeat (any_goals (first | (go_big_quiet_step ((first | (go_at_call 59; with_reducible exact reg_pure (HS.out _)) | (go_at_call 47; with_reducible exact reg_pure (HP.out _))))) | (quiet_step ((first | (go_at_call 59; with_reducible exact reg_pure (HS.out _)) | (go_at_call 47; with_reducible exact reg_pure (HP.out _))))) | (refine wpQuiet_step (fun K hK => ?_); go_simp; split <;> (refine hK _ ?_; clear hK K))))); all_goals (refine wpQuiet_nil ?_; intro _ hw'; obtain ⟨⟨dq, osq⟩, hw''⟩ := hw'; subst hw'')))
        go_ret
        exact ⟨ret_bool (by simp), by (repeat (first | (with_reducible assumption) | (with_reducible exact Reach.refl _) | (with_reducible refine Reach.alloc ?_ _) | (with_reducible refine Reach.drew ?_) | (with_reducible refine Reach.drewN ?_ _) | (with_reducible refine Reach.grow ?_ _ _) | (with_reducible refine Reach.setCell ?_ ?_ _) | (with_reducible refine Reach.trans ?_ (by with_reducible assumption)) | (show _ ≤ Addr.block _; first | (exact Nat.le_refl _) | (show (_ : Nat) ≤ _; omega)) | (simp; done) | (simp; omega)))⟩
    · have e2 : (l == (x :: xs : List UInt8)) = true := by simp only [beq_iff_eq] at he ⊢; exact he.symm
      clear hs hp
      go_enter Tryz.func25, Tryz.ntmps25
      go_wp2_with (first | ((with_reducible refine wp_region_quiet_below (by kernel_rfl) (by kernel_rfl) ?_); (repeat (any_goals (first | (go_big_quiet_step (fail)) | (quiet_step (fail)) | (refine wpQuiet_step (fun K hK => ?_); go_simp; split <;> (refine hK _ ?_; clear hK K))))); all_goals (refine wpQuiet_nil ?_; intro _ hw'; obtain ⟨⟨dq, osq⟩, hw''⟩ := hw'; subst hw'')))
      go_ret
      exact ⟨ret_bool (by simp), by (repeat (first | (with_reducible assumption) | (with_reducible exact Reach.refl _) | (with_reducible refine Reach.alloc ?_ _) | (with_reducible refine Reach.drew ?_) | (with_reducible refine Reach.drewN ?_ _) | (with_reducible refine Reach.grow ?_ _ _) | (with_reducible refine Reach.setCell ?_ ?_ _) | (with_reducible refine Reach.trans ?_ (by with_reducible assumption)) | (show _ ≤ Addr.block _; first | (exact Nat.le_refl _) | (show (_ : Nat) ≤ _; omega)) | (simp; done) | (simp; omega)))⟩
end Go.Proofs.YtbeaheicjopooaaGreatDoor
