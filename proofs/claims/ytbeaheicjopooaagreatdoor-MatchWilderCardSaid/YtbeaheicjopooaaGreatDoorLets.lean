/- The bounds and the examples of the chapter on matching; no condition but on the program's own variables. -/
import Derived.Test.YtbeaheicjopooaaGreatDoorProg
import Derived.Test.YtbeaheicjopooaaGreatDoorSrc4
import Derived.Test.YtbeaheicjopooaaGreatDoorMatchV
import Derived.Test.YtbeaheicjopooaaGreatDoorBig
namespace Go.Proofs.YtbeaheicjopooaaGreatDoor
open Go.RowKit Go.Sort
attribute [local go_sem] get_mk mk_append mk_extract0 mk_extract_end mk_extract_cons empty_mk cell_grow frozen_grow size_grow
/-- Has a source more than is looked at? -/
def bigS (t s h pa : List UInt8) : Bool := decide (500 < (t.length : Int)) || decide (500 < (s.length : Int)) || decide (500 < (h.length : Int)) || decide (500 < (pa.length : Int))
theorem bigS_no {t s h pa : List UInt8} (e : bigS t s h pa = false) : t.length ≤ 500 ∧ s.length ≤ 500 ∧ h.length ≤ 500 ∧ pa.length ≤ 500 := by
  simp [bigS] at e
  omega
set_option maxRecDepth 100000 in
set_option maxHeartbeats 2000000 in
theorem big9_calls (B : Nat) (k : Int) (t s h : List UInt8) (wd : Bool) (p : Int) (pa : List UInt8) (w : World) (BS : Blk w B #[.int .i64 k, .string ⟨t.toArray⟩, .string ⟨s.toArray⟩, .string ⟨h.toArray⟩, .bool wd, .int .i64 p, .string ⟨pa.toArray⟩] 33) :
    Calls Tryz.prog 51 #[.slice (some ⟨B, 0, none⟩) 1 1] w fun e w' => e = .returned (.bool (bigS t s h pa)) ∧ Reach w w' := by
  obtain ⟨x0, x1, x2, x3, x4, x5, x6⟩ := BS.seven
  have xl := BS.lt
  clear BS
  cases hb : bigS t s h pa
  · obtain ⟨h1, h2, h3, h4⟩ := bigS_no hb
    clear hb
    have g1 : decide ((500 : Int) < t.length) = false := by simp; omega
    have g2 : decide ((500 : Int) < s.length) = false := by simp; omega
    have g3 : decide ((500 : Int) < h.length) = false := by simp; omega
    have g4 : decide ((500 : Int) < pa.length) = false := by simp; omega
    clear h1 h2 h3 h4
    go_enter Tryz.func51, Tryz.ntmps51
    go_wp2_with fail
    go_loop [3] (fun i => i = .int .i64 0 ∨ i = .int .i64 1) (fun i => 1 - (intOf i).toNat)
    case atStart => exact .inl rfl
    case round =>
      rcases hrel with rfl | rfl
      · go_wp2_with (first | ((with_reducible refine wp_region_quiet_below (by kernel_rfl) (by kernel_rfl) ?_); (repeat (any_goals (first | (go_big_quiet_step (fail)) | (quiet_step (fail)) | (refine wpQuiet_step (fun K hK => ?_); go_simp; split <;> (refine hK _ ?_; clear hK K))))); all_goals (refine wpQuiet_nil ?_; intro _ hw'; obtain ⟨⟨dq, osq⟩, hw''⟩ := hw'; subst hw'')))
        exact ⟨.inr rfl, by simp [intOf]⟩
      · go_wp2_with (first | ((with_reducible refine wp_region_quiet_below (by kernel_rfl) (by kernel_rfl) ?_); (repeat (any_goals (first | (go_big_quiet_step (fail)) | (quiet_step (fail)) | (refine wpQuiet_step (fun K hK => ?_); go_simp; split <;> (refine hK _ ?_; clear hK K))))); all_goals (refine wpQuiet_nil ?_; intro _ hw'; obtain ⟨⟨dq, osq⟩, hw''⟩ := hw'; subst hw'')))
        go_ret
        exact ⟨rfl, by (repeat (first | (with_reducible assumption) | (with_reducible exact Reach.refl _) | (with_reducible refine Reach.alloc ?_ _) | (with_reducible refine Reach.drew ?_) | (with_reducible refine Reach.drewN ?_ _) | (with_reducible refine Reach.grow ?_ _ _) | (with_reducible refine Reach.setCell ?_ ?_ _) | (with_reducible refine Reach.trans ?_ (by with_reducible assumption)) | (show _ ≤ Addr.block _; first | (exact Nat.le_refl _) | (show (_ : Nat) ≤ _; omega)) | (simp; done) | (simp; omega)))⟩
  · have hor : ((500 : Int) < t.length) ∨ (¬ (500 : Int) < t.length ∧ (500 : Int) < s.length) ∨ (¬ (500 : Int) < t.length ∧ ¬ (500 : Int) < s.length ∧ (500 : Int) < h.length) ∨ (¬ (500 : Int) < t.length ∧ ¬ (500 : Int) < s.length ∧ ¬ (500 : Int) < h.length ∧ (500 : Int) < pa.length) := by
      simp [bigS] at hb
      omega
    clear hb
    rcases hor with g0 | ⟨g0, g1⟩ | ⟨g0, g1, g2⟩ | ⟨g0, g1, g2, g3⟩
    · have d0 : decide ((500 : Int) < t.length) = true := by simpa using g0
      clear g0
      go_enter Tryz.func51, Tryz.ntmps51
      go_wp2_with fail
      go_loop [3] (fun i => i = .int .i64 0) (fun _ => 0)
      case atStart => rfl
      case round =>
        subst hrel
        go_wp2_with (first | ((with_reducible refine wp_region_quiet_below (by kernel_rfl) (by kernel_rfl) ?_); (repeat (any_goals (first | (go_big_quiet_step (fail)) | (quiet_step (fail)) | (refine wpQuiet_step (fun K hK => ?_); go_simp; split <;> (refine hK _ ?_; clear hK K))))); all_goals (refine wpQuiet_nil ?_; intro _ hw'; obtain ⟨⟨dq, osq⟩, hw''⟩ := hw'; subst hw'')))
        go_ret
        exact ⟨rfl, by (repeat (first | (with_reducible assumption) | (with_reducible exact Reach.refl _) | (with_reducible refine Reach.alloc ?_ _) | (with_reducible refine Reach.drew ?_) | (with_reducible refine Reach.drewN ?_ _) | (with_reducible refine Reach.grow ?_ _ _) | (with_reducible refine Reach.setCell ?_ ?_ _) | (with_reducible refine Reach.trans ?_ (by with_reducible assumption)) | (show _ ≤ Addr.block _; first | (exact Nat.le_refl _) | (show (_ : Nat) ≤ _; omega)) | (simp; done) | (simp; omega)))⟩
    · have d0 : decide ((500 : Int) < t.length) = false := by simpa using g0
      have d1 : decide ((500 : Int) < s.length) = true := by simpa using g1
      clear g0 g1
      go_enter Tryz.func51, Tryz.ntmps51
      go_wp2_with fail
      go_loop [3] (fun i => i = .int .i64 0) (fun _ => 0)
      case atStart => rfl
      case round =>
        subst hrel
        go_wp2_with (first | ((with_reducible refine wp_region_quiet_below (by kernel_rfl) (by kernel_rfl) ?_); (repeat (any_goals (first | (go_big_quiet_step (fail)) | (quiet_step (fail)) | (refine wpQuiet_step (fun K hK => ?_); go_simp; split <;> (refine hK _ ?_; clear hK K))))); all_goals (refine wpQuiet_nil ?_; intro _ hw'; obtain ⟨⟨dq, osq⟩, hw''⟩ := hw'; subst hw'')))
        go_ret
        exact ⟨rfl, by (repeat (first | (with_reducible assumption) | (with_reducible exact Reach.refl _) | (with_reducible refine Reach.alloc ?_ _) | (with_reducible refine Reach.drew ?_) | (with_reducible refine Reach.drewN ?_ _) | (with_reducible refine Reach.grow ?_ _ _) | (with_reducible refine Reach.setCell ?_ ?_ _) | (with_reducible refine Reach.trans ?_ (by with_reducible assumption)) | (show _ ≤ Addr.block _; first | (exact Nat.le_refl _) | (show (_ : Nat) ≤ _; omega)) | (simp; done) | (simp; omega)))⟩
    · have d0 : decide ((500 : Int) < t.length) = false := by simpa using g0
      have d1 : decide ((500 : Int) < s.length) = false := by simpa using g1
      have d2 : decide ((500 : Int) < h.length) = true := by simpa using g2
      clear g0 g1 g2
      go_enter Tryz.func51, Tryz.ntmps51
      go_wp2_with fail
      go_loop [3] (fun i => i = .int .i64 0) (fun _ => 0)
      case atStart => rfl
      case round =>
        subst hrel
        go_wp2_with (first | ((with_reducible refine wp_region_quiet_below (by kernel_rfl) (by kernel_rfl) ?_); (repeat (any_goals (first | (go_big_quiet_step (fail)) | (quiet_step (fail)) | (refine wpQuiet_step (fun K hK => ?_); go_simp; split <;> (refine hK _ ?_; clear hK K))))); all_goals (refine wpQuiet_nil ?_; intro _ hw'; obtain ⟨⟨dq, osq⟩, hw''⟩ := hw'; subst hw'')))
        go_ret
        exact ⟨rfl, by (repeat (first | (with_reducible assumption) | (with_reducible exact Reach.refl _) | (with_reducible refine Reach.alloc ?_ _) | (with_reducible refine Reach.drew ?_) | (with_reducible refine Reach.drewN ?_ _) | (with_reducible refine Reach.grow ?_ _ _) | (with_reducible refine Reach.setCell ?_ ?_ _) | (with_reducible refine Reach.trans ?_ (by with_reducible assumption)) | (show _ ≤ Addr.block _; first | (exact Nat.le_refl _) | (show (_ : Nat) ≤ _; omega)) | (simp; done) | (simp; omega)))⟩
    · have d0 : decide ((500 : Int) < t.length) = false := by simpa using g0
      have d1 : decide ((500 : Int) < s.length) = false := by simpa using g1
      have d2 : decide ((500 : Int) < h.length) = false := by simpa using g2
      have d3 : decide ((500 : Int) < pa.length) = true := by simpa using g3
      clear g0 g1 g2 g3
      go_enter Tryz.func51, Tryz.ntmps51
      go_wp2_with fail
      go_loop [3] (fun i => i = .int .i64 0) (fun _ => 0)
      case atStart => rfl
      case round =>
        subst hrel
        go_wp2_with (first | ((with_reducible refine wp_region_quiet_below (by kernel_rfl) (by kernel_rfl) ?_); (repeat (any_goals (first | (go_big_quiet_step (fail)) | (quiet_step (fail)) | (refine wpQuiet_step (fun K hK => ?_); go_simp; split <;> (refine hK _ ?_; clear hK K))))); all_goals (refine wpQuiet_nil ?_; intro _ hw'; obtain ⟨⟨dq, osq⟩, hw''⟩ := hw'; subst hw'')))
        go_ret
        exact ⟨rfl, by (repeat (first | (with_reducible assumption) | (with_reducible exact Reach.refl _) | (with_reducible refine Reach.alloc ?_ _) | (with_reducible refine Reach.drew ?_) | (with_reducible refine Reach.drewN ?_ _) | (with_reducible refine Reach.grow ?_ _ _) | (with_reducible refine Reach.setCell ?_ ?_ _) | (with_reducible refine Reach.trans ?_ (by with_reducible assumption)) | (show _ ≤ Addr.block _; first | (exact Nat.le_refl _) | (show (_ : Nat) ≤ _; omega)) | (simp; done) | (simp; omega)))⟩
/-- Is something more than is looked at? -/
def largeB (t s h pa : List UInt8) (u v : URL) : Bool := bigS t s h pa || bigB u.sch u.host u.path u.query || bigB v.sch v.host v.path v.query
set_option maxRecDepth 100000 in
set_option maxHeartbeats 2000000 in
theorem large_calls (k : Int) (t s h : List UInt8) (wd : Bool) (p : Int) (pa : List UInt8) (u0 : Bool) (u1 u2 : List UInt8) (u3 : Int) (u4 u5 : List UInt8) (v0 : Bool) (v1 v2 : List UInt8) (v3 : Int) (v4 v5 : List UInt8) (w : World) :
    Calls Tryz.prog 17 #[.agg #[.int .i64 k, .string ⟨t.toArray⟩, .string ⟨s.toArray⟩, .string ⟨h.toArray⟩, .bool wd, .int .i64 p, .string ⟨pa.toArray⟩], .agg #[.bool u0, .string ⟨u1.toArray⟩, .string ⟨u2.toArray⟩, .int .i64 u3, .string ⟨u4.toArray⟩, .string ⟨u5.toArray⟩], .agg #[.bool v0, .string ⟨v1.toArray⟩, .string ⟨v2.toArray⟩, .int .i64 v3, .string ⟨v4.toArray⟩, .string ⟨v5.toArray⟩]] w fun e w' => e = .returned (.bool (largeB t s h pa ⟨u0, u1, u2, u3, u4, u5⟩ ⟨v0, v1, v2, v3, v4, v5⟩)) ∧ Reach w w' := by
  have hb9 := fun B W (BS : Blk W B #[.int .i64 k, .string ⟨t.toArray⟩, .string ⟨s.toArray⟩, .string ⟨h.toArray⟩, .bool wd, .int .i64 p, .string ⟨pa.toArray⟩] 33) => big9_calls B k t s h wd p pa W BS
  have hbu := fun W => big_calls u0 u1 u2 u3 u4 u5 W
  have hbv := fun W => big_calls v0 v1 v2 v3 v4 v5 W
  unfold largeB
  simp only
  generalize bigS t s h pa = x at *
  generalize bigB u1 u2 u4 u5 = y at *
  generalize bigB v1 v2 v4 v5 = z at *
  cases x <;> cases y
  all_goals
    have HB := Lib.hid hb9
    have HBU := Lib.hid hbu
    have HBV := Lib.hid hbv
    clear hb9 hbu hbv
    go_enter Tryz.func17, Tryz.ntmps17
    go_wp2_with fail
    have BS : Blk (w.alloc (.cells #[.int .i64 k, .string ⟨t.toArray⟩, .string ⟨s.toArray⟩, .string ⟨h.toArray⟩, .bool wd, .int .i64 p, .string ⟨pa.toArray⟩] 33)) (w.heap.size) #[.int .i64 k, .string ⟨t.toArray⟩, .string ⟨s.toArray⟩, .string ⟨h.toArray⟩, .bool wd, .int .i64 p, .string ⟨pa.toArray⟩] 33 := by have h := Blk.new w #[.int .i64 k, .string ⟨t.toArray⟩, .string ⟨s.toArray⟩, .string ⟨h.toArray⟩, .bool wd, .int .i64 p, .string ⟨pa.toArray⟩] 33; exact h
    have BU : Blk ((w.alloc (.cells #[.int .i64 k, .string ⟨t.toArray⟩, .string ⟨s.toArray⟩, .string ⟨h.toArray⟩, .bool wd, .int .i64 p, .string ⟨pa.toArray⟩] 33)).alloc (.cells #[.bool u0, .string ⟨u1.toArray⟩, .string ⟨u2.toArray⟩, .int .i64 u3, .string ⟨u4.toArray⟩, .string ⟨u5.toArray⟩] 23)) (w.heap.size + 1) #[.bool u0, .string ⟨u1.toArray⟩, .string ⟨u2.toArray⟩, .int .i64 u3, .string ⟨u4.toArray⟩, .string ⟨u5.toArray⟩] 23 := by have h := Blk.new (w.alloc (.cells #[.int .i64 k, .string ⟨t.toArray⟩, .string ⟨s.toArray⟩, .string ⟨h.toArray⟩, .bool wd, .int .i64 p, .string ⟨pa.toArray⟩] 33)) #[.bool u0, .string ⟨u1.toArray⟩, .string ⟨u2.toArray⟩, .int .i64 u3, .string ⟨u4.toArray⟩, .string ⟨u5.toArray⟩] 23; rw [World.size_alloc] at h; exact h
    replace BS := BS.reach (Reach.alloc (Reach.refl _) (.cells #[.bool u0, .string ⟨u1.toArray⟩, .string ⟨u2.toArray⟩, .int .i64 u3, .string ⟨u4.toArray⟩, .string ⟨u5.toArray⟩] 23))
    have BV : Blk (((w.alloc (.cells #[.int .i64 k, .string ⟨t.toArray⟩, .string ⟨s.toArray⟩, .string ⟨h.toArray⟩, .bool wd, .int .i64 p, .string ⟨pa.toArray⟩] 33)).alloc (.cells #[.bool u0, .string ⟨u1.toArray⟩, .string ⟨u2.toArray⟩, .int .i64 u3, .string ⟨u4.toArray⟩, .string ⟨u5.toArray⟩] 23)).alloc (.cells #[.bool v0, .string ⟨v1.toArray⟩, .string ⟨v2.toArray⟩, .int .i64 v3, .string ⟨v4.toArray⟩, .string ⟨v5.toArray⟩] 23)) (w.heap.size + 2) #[.bool v0, .string ⟨v1.toArray⟩, .string ⟨v2.toArray⟩, .int .i64 v3, .string ⟨v4.toArray⟩, .string ⟨v5.toArray⟩] 23 := by have h := Blk.new ((w.alloc (.cells #[.int .i64 k, .string ⟨t.toArray⟩, .string ⟨s.toArray⟩, .string ⟨h.toArray⟩, .bool wd, .int .i64 p, .string ⟨pa.toArray⟩] 33)).alloc (.cells #[.bool u0, .string ⟨u1.toArray⟩, .string ⟨u2.toArray⟩, .int .i64 u3, .string ⟨u4.toArray⟩, .string ⟨u5.toArray⟩] 23)) #[.bool v0, .string ⟨v1.toArray⟩, .string ⟨v2.toArray⟩, .int .i64 v3, .string ⟨v4.toArray⟩, .string ⟨v5.toArray⟩] 23; rw [World.size_alloc, World.size_alloc] at h; exact h
    replace BS := BS.reach (Reach.alloc (Reach.refl _) (.cells #[.bool v0, .string ⟨v1.toArray⟩, .string ⟨v2.toArray⟩, .int .i64 v3, .string ⟨v4.toArray⟩, .string ⟨v5.toArray⟩] 23))
    replace BU := BU.reach (Reach.alloc (Reach.refl _) (.cells #[.bool v0, .string ⟨v1.toArray⟩, .string ⟨v2.toArray⟩, .int .i64 v3, .string ⟨v4.toArray⟩, .string ⟨v5.toArray⟩] 23))
    have BL : Blk ((((w.alloc (.cells #[.int .i64 k, .string ⟨t.toArray⟩, .string ⟨s.toArray⟩, .string ⟨h.toArray⟩, .bool wd, .int .i64 p, .string ⟨pa.toArray⟩] 33)).alloc (.cells #[.bool u0, .string ⟨u1.toArray⟩, .string ⟨u2.toArray⟩, .int .i64 u3, .string ⟨u4.toArray⟩, .string ⟨u5.toArray⟩] 23)).alloc (.cells #[.bool v0, .string ⟨v1.toArray⟩, .string ⟨v2.toArray⟩, .int .i64 v3, .string ⟨v4.toArray⟩, .string ⟨v5.toArray⟩] 23)).alloc (.cells #[.int .i64 k, .string ⟨t.toArray⟩, .string ⟨s.toArray⟩, .string ⟨h.toArray⟩, .bool wd, .int .i64 p, .string ⟨pa.toArray⟩] 33)) (w.heap.size + 3) #[.int .i64 k, .string ⟨t.toArray⟩, .string ⟨s.toArray⟩, .string ⟨h.toArray⟩, .bool wd, .int .i64 p, .string ⟨pa.toArray⟩] 33 := by have h := Blk.new (((w.alloc (.cells #[.int .i64 k, .string ⟨t.toArray⟩, .string ⟨s.toArray⟩, .string ⟨h.toArray⟩, .bool wd, .int .i64 p, .string ⟨pa.toArray⟩] 33)).alloc (.cells #[.bool u0, .string ⟨u1.toArray⟩, .string ⟨u2.toArray⟩, .int .i64 u3, .string ⟨u4.toArray⟩, .string ⟨u5.toArray⟩] 23)).alloc (.cells #[.bool v0, .string ⟨v1.toArray⟩, .string ⟨v2.toArray⟩, .int .i64 v3, .string ⟨v4.toArray⟩, .string ⟨v5.toArray⟩] 23)) #[.int .i64 k, .string ⟨t.toArray⟩, .string ⟨s.toArray⟩, .string ⟨h.toArray⟩, .bool wd, .int .i64 p, .string ⟨pa.toArray⟩] 33; rw [World.size_alloc, World.size_alloc, World.size_alloc] at h; exact h
    replace BS := BS.reach (Reach.alloc (Reach.refl _) (.cells #[.int .i64 k, .string ⟨t.toArray⟩, .string ⟨s.toArray⟩, .string ⟨h.toArray⟩, .bool wd, .int .i64 p, .string ⟨pa.toArray⟩] 33))
    replace BU := BU.reach (Reach.alloc (Reach.refl _) (.cells #[.int .i64 k, .string ⟨t.toArray⟩, .string ⟨s.toArray⟩, .string ⟨h.toArray⟩, .bool wd, .int .i64 p, .string ⟨pa.toArray⟩] 33))
    replace BV := BV.reach (Reach.alloc (Reach.refl _) (.cells #[.int .i64 k, .string ⟨t.toArray⟩, .string ⟨s.toArray⟩, .string ⟨h.toArray⟩, .bool wd, .int .i64 p, .string ⟨pa.toArray⟩] 33))
    have Q : Reach w _ := Reach.alloc (Reach.alloc (Reach.alloc (Reach.alloc (Reach.refl w) (.cells #[.int .i64 k, .string ⟨t.toArray⟩, .string ⟨s.toArray⟩, .string ⟨h.toArray⟩, .bool wd, .int .i64 p, .string ⟨pa.toArray⟩] 33)) (.cells #[.bool u0, .string ⟨u1.toArray⟩, .string ⟨u2.toArray⟩, .int .i64 u3, .string ⟨u4.toArray⟩, .string ⟨u5.toArray⟩] 23)) (.cells #[.bool v0, .string ⟨v1.toArray⟩, .string ⟨v2.toArray⟩, .int .i64 v3, .string ⟨v4.toArray⟩, .string ⟨v5.toArray⟩] 23)) (.cells #[.int .i64 k, .string ⟨t.toArray⟩, .string ⟨s.toArray⟩, .string ⟨h.toArray⟩, .bool wd, .int .i64 p, .string ⟨pa.toArray⟩] 33)
    generalize (((w.alloc (.cells #[.int .i64 k, .string ⟨t.toArray⟩, .string ⟨s.toArray⟩, .string ⟨h.toArray⟩, .bool wd, .int .i64 p, .string ⟨pa.toArray⟩] 33)).alloc (.cells #[.bool u0, .string ⟨u1.toArray⟩, .string ⟨u2.toArray⟩, .int .i64 u3, .string ⟨u4.toArray⟩, .string ⟨u5.toArray⟩] 23)).alloc (.cells #[.bool v0, .string ⟨v1.toArray⟩, .string ⟨v2.toArray⟩, .int .i64 v3, .string ⟨v4.toArray⟩, .string ⟨v5.toArray⟩] 23)).alloc (.cells #[.int .i64 k, .string ⟨t.toArray⟩, .string ⟨s.toArray⟩, .string ⟨h.toArray⟩, .bool wd, .int .i64 p, .string ⟨pa.toArray⟩] 33) = W0 at BS BU BV BL Q ⊢
    (with_reducible refine Calls.mono (HB.out _ _ BL) ?_)
    rintro e W1 ⟨rfl, hr⟩
    replace BU := BU.reach hr
    replace BV := BV.reach hr
    replace Q := Reach.trans Q hr
    clear hr
    obtain ⟨x0_0, x0_1, x0_2, x0_3, x0_4, x0_5⟩ := BU.six
    have xl0 := BU.lt
    obtain ⟨x1_0, x1_1, x1_2, x1_3, x1_4, x1_5⟩ := BV.six
    have xl1 := BV.lt
    go_wp2_with (first | (go_at_call 11; (with_reducible refine Calls.mono (HBU.out _) ?_); rintro e w' ⟨rfl, hb⟩; obtain ⟨hc, hf, hz⟩ := Reach.facts hb) | (go_at_call 11; (with_reducible refine Calls.mono (HBV.out _) ?_); rintro e w' ⟨rfl, hb⟩; obtain ⟨hc, hf, hz⟩ := Reach.facts hb) | ((with_reducible refine wp_region_quiet_below (by kernel_rfl) (by kernel_rfl) ?_); (repeat (any_goals (first | (go_big_quiet_step ((first | (go_at_call 11; with_reducible exact reg_reach (HBU.out _)) | (go_at_call 11; with_reducible exact reg_reach (HBV.out _))))) | (quiet_step ((first | (go_at_call 11; with_reducible exact reg_reach (HBU.out _)) | (go_at_call 11; with_reducible exact reg_reach (HBV.out _))))) | (refine wpQuiet_step (fun K hK => ?_); go_simp; split <;> (refine hK _ ?_; clear hK K))))); all_goals (refine wpQuiet_nil ?_; intro _ hw'; obtain ⟨⟨dq, osq⟩, hw''⟩ := hw'; subst hw'')))
    go_ret
    exact ⟨ret_bool (by simp), by (repeat (first | (with_reducible assumption) | (with_reducible exact Reach.refl _) | (with_reducible refine Reach.alloc ?_ _) | (with_reducible refine Reach.drew ?_) | (with_reducible refine Reach.drewN ?_ _) | (with_reducible refine Reach.grow ?_ _ _) | (with_reducible refine Reach.setCell ?_ ?_ _) | (with_reducible refine Reach.trans ?_ (by with_reducible assumption)) | (show _ ≤ Addr.block _; first | (exact Nat.le_refl _) | (show (_ : Nat) ≤ _; omega)) | (simp; done) | (simp; omega)))⟩
set_option maxRecDepth 100000 in
set_option maxHeartbeats 2000000 in
theorem lets_0 (w : World) (hE : Env w) (hK : KeptIs w) : Calls Tryz.prog 52 #[.string ⟨#[42, 46, 97, 46, 98]⟩, .string ⟨#[104, 116, 116, 112, 115, 58, 47, 47, 120, 46, 97, 46, 98, 47, 121]⟩, .string ⟨#[104, 116, 116, 112, 58, 47, 47, 97]⟩, .bool false] w fun e w' => e = .returned (.bool true) ∧ Reach w w' := by
  have h1 := fun W (hE : Env W) => sparse1_calls W hE
  have h2 : ∀ W, Env W → Calls Tryz.prog 32 #[.string ⟨#[104, 116, 116, 112, 115, 58, 47, 47, 120, 46, 97, 46, 98, 47, 121]⟩] W fun e w' => e = .returned (.tuple #[.agg #[.bool false, .string ⟨#[104, 116, 116, 112, 115]⟩, .string ⟨#[120, 46, 97, 46, 98]⟩, .int .i64 0, .string ⟨#[47, 121]⟩, .string ⟨#[]⟩], .int .i64 0]) ∧ Reach W w' := by
    intro W hE
    have h := parse_calls [104, 116, 116, 112, 115, 58, 47, 47, 120, 46, 97, 46, 98, 47, 121] W (by decide) hE
    rw [show parseU [104, 116, 116, 112, 115, 58, 47, 47, 120, 46, 97, 46, 98, 47, 121] = ⟨false, [104, 116, 116, 112, 115], [120, 46, 97, 46, 98], 0, [47, 121], []⟩ by decide +kernel, show parseE [104, 116, 116, 112, 115, 58, 47, 47, 120, 46, 97, 46, 98, 47, 121] = 0 by decide +kernel] at h
    exact h
  have h3 : ∀ W, Env W → Calls Tryz.prog 32 #[.string ⟨#[104, 116, 116, 112, 58, 47, 47, 97]⟩] W fun e w' => e = .returned (.tuple #[.agg #[.bool false, .string ⟨#[104, 116, 116, 112]⟩, .string ⟨#[97]⟩, .int .i64 0, .string ⟨#[47]⟩, .string ⟨#[]⟩], .int .i64 0]) ∧ Reach W w' := by
    intro W hE
    have h := parse_calls [104, 116, 116, 112, 58, 47, 47, 97] W (by decide) hE
    rw [show parseU [104, 116, 116, 112, 58, 47, 47, 97] = ⟨false, [104, 116, 116, 112], [97], 0, [47], []⟩ by decide +kernel, show parseE [104, 116, 116, 112, 58, 47, 47, 97] = 0 by decide +kernel] at h
    exact h
  have h4 := fun W (hE : Env W) => murl_calls 12 [] [] [97, 46, 98] true 0 [] false [104, 116, 116, 112, 115] [120, 46, 97, 46, 98] 0 [47, 121] [] false [104, 116, 116, 112] [97] 0 [47] [] false W (by decide) (by decide) (by decide) (by decide) (by decide) (by decide) (by decide) (by decide) (by decide) (by decide) (by decide) (by decide) (by decide) (by decide) (by decide) hE
  rw [show urlM ⟨12, [], [], [97, 46, 98], true, 0, []⟩ ⟨false, [104, 116, 116, 112, 115], [120, 46, 97, 46, 98], 0, [47, 121], []⟩ ⟨false, [104, 116, 116, 112], [97], 0, [47], []⟩ false = true by decide +kernel] at h4
  have HE := Lib.hid hE
  have HK := Lib.hid hK
  have H1 := Lib.hid h1
  have H2 := Lib.hid h2
  have H3 := Lib.hid h3
  have H4 := Lib.hid h4
  clear hE hK h1 h2 h3 h4
  go_enter Tryz.func52, Tryz.ntmps52
  have Q := Reach.refl w
  go_wp2_with fail
  (with_reducible refine Calls.mono (H1.out _ (Env.reach HE.out Q)) ?_)
  rintro e W1 ⟨rfl, hr⟩
  replace Q := Reach.trans Q hr
  clear hr
  go_wp2_with fail
  have BS : Blk (W1.alloc (.cells #[.int .i64 12, .string ⟨#[]⟩, .string ⟨#[]⟩, .string ⟨#[97, 46, 98]⟩, .bool true, .int .i64 0, .string ⟨#[]⟩] 33)) (W1.heap.size) #[.int .i64 12, .string ⟨#[]⟩, .string ⟨#[]⟩, .string ⟨#[97, 46, 98]⟩, .bool true, .int .i64 0, .string ⟨#[]⟩] 33 := by have h := Blk.new W1 #[.int .i64 12, .string ⟨#[]⟩, .string ⟨#[]⟩, .string ⟨#[97, 46, 98]⟩, .bool true, .int .i64 0, .string ⟨#[]⟩] 33; exact h
  replace Q := Reach.alloc Q (.cells #[.int .i64 12, .string ⟨#[]⟩, .string ⟨#[]⟩, .string ⟨#[97, 46, 98]⟩, .bool true, .int .i64 0, .string ⟨#[]⟩] 33)
  generalize W1.alloc (.cells #[.int .i64 12, .string ⟨#[]⟩, .string ⟨#[]⟩, .string ⟨#[97, 46, 98]⟩, .bool true, .int .i64 0, .string ⟨#[]⟩] 33) = X1 at BS Q ⊢
  generalize W1.heap.size = nBS at *
  (with_reducible refine Calls.mono (H2.out _ (Env.reach HE.out Q)) ?_)
  rintro e W2 ⟨rfl, hr⟩
  replace BS := BS.reach hr
  replace Q := Reach.trans Q hr
  clear hr
  obtain ⟨x0_0, x0_1, x0_2, x0_3, x0_4, x0_5, x0_6⟩ := BS.seven
  have xl0 := BS.lt
  go_wp2_with fail
  clear x0_0 x0_1 x0_2 x0_3 x0_4 x0_5 x0_6 xl0
  have BU : Blk (W2.alloc (.cells #[.bool false, .string ⟨#[104, 116, 116, 112, 115]⟩, .string ⟨#[120, 46, 97, 46, 98]⟩, .int .i64 0, .string ⟨#[47, 121]⟩, .string ⟨#[]⟩] 23)) (W2.heap.size) #[.bool false, .string ⟨#[104, 116, 116, 112, 115]⟩, .string ⟨#[120, 46, 97, 46, 98]⟩, .int .i64 0, .string ⟨#[47, 121]⟩, .string ⟨#[]⟩] 23 := by have h := Blk.new W2 #[.bool false, .string ⟨#[104, 116, 116, 112, 115]⟩, .string ⟨#[120, 46, 97, 46, 98]⟩, .int .i64 0, .string ⟨#[47, 121]⟩, .string ⟨#[]⟩] 23; exact h
  replace BS := BS.reach (Reach.alloc (Reach.refl _) (.cells #[.bool false, .string ⟨#[104, 116, 116, 112, 115]⟩, .string ⟨#[120, 46, 97, 46, 98]⟩, .int .i64 0, .string ⟨#[47, 121]⟩, .string ⟨#[]⟩] 23))
  replace Q := Reach.alloc Q (.cells #[.bool false, .string ⟨#[104, 116, 116, 112, 115]⟩, .string ⟨#[120, 46, 97, 46, 98]⟩, .int .i64 0, .string ⟨#[47, 121]⟩, .string ⟨#[]⟩] 23)
  generalize W2.alloc (.cells #[.bool false, .string ⟨#[104, 116, 116, 112, 115]⟩, .string ⟨#[120, 46, 97, 46, 98]⟩, .int .i64 0, .string ⟨#[47, 121]⟩, .string ⟨#[]⟩] 23) = X2 at BS BU Q ⊢
  generalize W2.heap.size = nBU at *
  (with_reducible refine Calls.mono (H3.out _ (Env.reach HE.out Q)) ?_)
  rintro e W3 ⟨rfl, hr⟩
  replace BS := BS.reach hr
  replace BU := BU.reach hr
  replace Q := Reach.trans Q hr
  clear hr
  obtain ⟨x0_0, x0_1, x0_2, x0_3, x0_4, x0_5, x0_6⟩ := BS.seven
  have xl0 := BS.lt
  obtain ⟨x1_0, x1_1, x1_2, x1_3, x1_4, x1_5⟩ := BU.six
  have xl1 := BU.lt
  go_wp2_with fail
  clear x0_0 x0_1 x0_2 x0_3 x0_4 x0_5 x0_6 xl0 x1_0 x1_1 x1_2 x1_3 x1_4 x1_5 xl1
  have BV : Blk (W3.alloc (.cells #[.bool false, .string ⟨#[104, 116, 116, 112]⟩, .string ⟨#[97]⟩, .int .i64 0, .string ⟨#[47]⟩, .string ⟨#[]⟩] 23)) (W3.heap.size) #[.bool false, .string ⟨#[104, 116, 116, 112]⟩, .string ⟨#[97]⟩, .int .i64 0, .string ⟨#[47]⟩, .string ⟨#[]⟩] 23 := by have h := Blk.new W3 #[.bool false, .string ⟨#[104, 116, 116, 112]⟩, .string ⟨#[97]⟩, .int .i64 0, .string ⟨#[47]⟩, .string ⟨#[]⟩] 23; exact h
  replace BS := BS.reach (Reach.alloc (Reach.refl _) (.cells #[.bool false, .string ⟨#[104, 116, 116, 112]⟩, .string ⟨#[97]⟩, .int .i64 0, .string ⟨#[47]⟩, .string ⟨#[]⟩] 23))
  replace BU := BU.reach (Reach.alloc (Reach.refl _) (.cells #[.bool false, .string ⟨#[104, 116, 116, 112]⟩, .string ⟨#[97]⟩, .int .i64 0, .string ⟨#[47]⟩, .string ⟨#[]⟩] 23))
  replace Q := Reach.alloc Q (.cells #[.bool false, .string ⟨#[104, 116, 116, 112]⟩, .string ⟨#[97]⟩, .int .i64 0, .string ⟨#[47]⟩, .string ⟨#[]⟩] 23)
  generalize W3.alloc (.cells #[.bool false, .string ⟨#[104, 116, 116, 112]⟩, .string ⟨#[97]⟩, .int .i64 0, .string ⟨#[47]⟩, .string ⟨#[]⟩] 23) = X3 at BS BU BV Q ⊢
  generalize W3.heap.size = nBV at *
  obtain ⟨x0_0, x0_1, x0_2, x0_3, x0_4, x0_5, x0_6⟩ := BS.seven
  have xl0 := BS.lt
  obtain ⟨x1_0, x1_1, x1_2, x1_3, x1_4, x1_5⟩ := BU.six
  have xl1 := BU.lt
  obtain ⟨x2_0, x2_1, x2_2, x2_3, x2_4, x2_5⟩ := BV.six
  have xl2 := BV.lt
  go_wp2_with fail
  clear x0_0 x0_1 x0_2 x0_3 x0_4 x0_5 x0_6 xl0 x1_0 x1_1 x1_2 x1_3 x1_4 x1_5 xl1 x2_0 x2_1 x2_2 x2_3 x2_4 x2_5 xl2
  (with_reducible refine Calls.mono (H4.out _ (Env.reach HE.out Q)) ?_)
  rintro e W4 ⟨rfl, hr⟩
  replace Q := Reach.trans Q hr
  clear hr
  go_wp2_with fail
  go_ret
  exact ⟨rfl, Q⟩
set_option maxRecDepth 100000 in
set_option maxHeartbeats 2000000 in
theorem lets_1 (w : World) (hE : Env w) (hK : KeptIs w) : Calls Tryz.prog 52 #[.string ⟨#[42, 46, 97, 46, 98]⟩, .string ⟨#[104, 116, 116, 112, 115, 58, 47, 47, 97, 46, 98, 47]⟩, .string ⟨#[104, 116, 116, 112, 115, 58, 47, 47, 97]⟩, .bool false] w fun e w' => e = .returned (.bool false) ∧ Reach w w' := by
  have h1 := fun W (hE : Env W) => sparse1_calls W hE
  have h2 : ∀ W, Env W → Calls Tryz.prog 32 #[.string ⟨#[104, 116, 116, 112, 115, 58, 47, 47, 97, 46, 98, 47]⟩] W fun e w' => e = .returned (.tuple #[.agg #[.bool false, .string ⟨#[104, 116, 116, 112, 115]⟩, .string ⟨#[97, 46, 98]⟩, .int .i64 0, .string ⟨#[47]⟩, .string ⟨#[]⟩], .int .i64 0]) ∧ Reach W w' := by
    intro W hE
    have h := parse_calls [104, 116, 116, 112, 115, 58, 47, 47, 97, 46, 98, 47] W (by decide) hE
    rw [show parseU [104, 116, 116, 112, 115, 58, 47, 47, 97, 46, 98, 47] = ⟨false, [104, 116, 116, 112, 115], [97, 46, 98], 0, [47], []⟩ by decide +kernel, show parseE [104, 116, 116, 112, 115, 58, 47, 47, 97, 46, 98, 47] = 0 by decide +kernel] at h
    exact h
  have h3 : ∀ W, Env W → Calls Tryz.prog 32 #[.string ⟨#[104, 116, 116, 112, 115, 58, 47, 47, 97]⟩] W fun e w' => e = .returned (.tuple #[.agg #[.bool false, .string ⟨#[104, 116, 116, 112, 115]⟩, .string ⟨#[97]⟩, .int .i64 0, .string ⟨#[47]⟩, .string ⟨#[]⟩], .int .i64 0]) ∧ Reach W w' := by
    intro W hE
    have h := parse_calls [104, 116, 116, 112, 115, 58, 47, 47, 97] W (by decide) hE
    rw [show parseU [104, 116, 116, 112, 115, 58, 47, 47, 97] = ⟨false, [104, 116, 116, 112, 115], [97], 0, [47], []⟩ by decide +kernel, show parseE [104, 116, 116, 112, 115, 58, 47, 47, 97] = 0 by decide +kernel] at h
    exact h
  have h4 := fun W (hE : Env W) => murl_calls 12 [] [] [97, 46, 98] true 0 [] false [104, 116, 116, 112, 115] [97, 46, 98] 0 [47] [] false [104, 116, 116, 112, 115] [97] 0 [47] [] false W (by decide) (by decide) (by decide) (by decide) (by decide) (by decide) (by decide) (by decide) (by decide) (by decide) (by decide) (by decide) (by decide) (by decide) (by decide) hE
  rw [show urlM ⟨12, [], [], [97, 46, 98], true, 0, []⟩ ⟨false, [104, 116, 116, 112, 115], [97, 46, 98], 0, [47], []⟩ ⟨false, [104, 116, 116, 112, 115], [97], 0, [47], []⟩ false = false by decide +kernel] at h4
  have HE := Lib.hid hE
  have HK := Lib.hid hK
  have H1 := Lib.hid h1
  have H2 := Lib.hid h2
  have H3 := Lib.hid h3
  have H4 := Lib.hid h4
  clear hE hK h1 h2 h3 h4
  go_enter Tryz.func52, Tryz.ntmps52
  have Q := Reach.refl w
  go_wp2_with fail
  (with_reducible refine Calls.mono (H1.out _ (Env.reach HE.out Q)) ?_)
  rintro e W1 ⟨rfl, hr⟩
  replace Q := Reach.trans Q hr
  clear hr
  go_wp2_with fail
  have BS : Blk (W1.alloc (.cells #[.int .i64 12, .string ⟨#[]⟩, .string ⟨#[]⟩, .string ⟨#[97, 46, 98]⟩, .bool true, .int .i64 0, .string ⟨#[]⟩] 33)) (W1.heap.size) #[.int .i64 12, .string ⟨#[]⟩, .string ⟨#[]⟩, .string ⟨#[97, 46, 98]⟩, .bool true, .int .i64 0, .string ⟨#[]⟩] 33 := by have h := Blk.new W1 #[.int .i64 12, .string ⟨#[]⟩, .string ⟨#[]⟩, .string ⟨#[97, 46, 98]⟩, .bool true, .int .i64 0, .string ⟨#[]⟩] 33; exact h
  replace Q := Reach.alloc Q (.cells #[.int .i64 12, .string ⟨#[]⟩, .string ⟨#[]⟩, .string ⟨#[97, 46, 98]⟩, .bool true, .int .i64 0, .string ⟨#[]⟩] 33)
  generalize W1.alloc (.cells #[.int .i64 12, .string ⟨#[]⟩, .string ⟨#[]⟩, .string ⟨#[97, 46, 98]⟩, .bool true, .int .i64 0, .string ⟨#[]⟩] 33) = X1 at BS Q ⊢
  generalize W1.heap.size = nBS at *
  (with_reducible refine Calls.mono (H2.out _ (Env.reach HE.out Q)) ?_)
  rintro e W2 ⟨rfl, hr⟩
  replace BS := BS.reach hr
  replace Q := Reach.trans Q hr
  clear hr
  obtain ⟨x0_0, x0_1, x0_2, x0_3, x0_4, x0_5, x0_6⟩ := BS.seven
  have xl0 := BS.lt
  go_wp2_with fail
  clear x0_0 x0_1 x0_2 x0_3 x0_4 x0_5 x0_6 xl0
  have BU : Blk (W2.alloc (.cells #[.bool false, .string ⟨#[104, 116, 116, 112, 115]⟩, .string ⟨#[97, 46, 98]⟩, .int .i64 0, .string ⟨#[47]⟩, .string ⟨#[]⟩] 23)) (W2.heap.size) #[.bool false, .string ⟨#[104, 116, 116, 112, 115]⟩, .string ⟨#[97, 46, 98]⟩, .int .i64 0, .string ⟨#[47]⟩, .string ⟨#[]⟩] 23 := by have h := Blk.new W2 #[.bool false, .string ⟨#[104, 116, 116, 112, 115]⟩, .string ⟨#[97, 46, 98]⟩, .int .i64 0, .string ⟨#[47]⟩, .string ⟨#[]⟩] 23; exact h
  replace BS := BS.reach (Reach.alloc (Reach.refl _) (.cells #[.bool false, .string ⟨#[104, 116, 116, 112, 115]⟩, .string ⟨#[97, 46, 98]⟩, .int .i64 0, .string ⟨#[47]⟩, .string ⟨#[]⟩] 23))
  replace Q := Reach.alloc Q (.cells #[.bool false, .string ⟨#[104, 116, 116, 112, 115]⟩, .string ⟨#[97, 46, 98]⟩, .int .i64 0, .string ⟨#[47]⟩, .string ⟨#[]⟩] 23)
  generalize W2.alloc (.cells #[.bool false, .string ⟨#[104, 116, 116, 112, 115]⟩, .string ⟨#[97, 46, 98]⟩, .int .i64 0, .string ⟨#[47]⟩, .string ⟨#[]⟩] 23) = X2 at BS BU Q ⊢
  generalize W2.heap.size = nBU at *
  (with_reducible refine Calls.mono (H3.out _ (Env.reach HE.out Q)) ?_)
  rintro e W3 ⟨rfl, hr⟩
  replace BS := BS.reach hr
  replace BU := BU.reach hr
  replace Q := Reach.trans Q hr
  clear hr
  obtain ⟨x0_0, x0_1, x0_2, x0_3, x0_4, x0_5, x0_6⟩ := BS.seven
  have xl0 := BS.lt
  obtain ⟨x1_0, x1_1, x1_2, x1_3, x1_4, x1_5⟩ := BU.six
  have xl1 := BU.lt
  go_wp2_with fail
  clear x0_0 x0_1 x0_2 x0_3 x0_4 x0_5 x0_6 xl0 x1_0 x1_1 x1_2 x1_3 x1_4 x1_5 xl1
  have BV : Blk (W3.alloc (.cells #[.bool false, .string ⟨#[104, 116, 116, 112, 115]⟩, .string ⟨#[97]⟩, .int .i64 0, .string ⟨#[47]⟩, .string ⟨#[]⟩] 23)) (W3.heap.size) #[.bool false, .string ⟨#[104, 116, 116, 112, 115]⟩, .string ⟨#[97]⟩, .int .i64 0, .string ⟨#[47]⟩, .string ⟨#[]⟩] 23 := by have h := Blk.new W3 #[.bool false, .string ⟨#[104, 116, 116, 112, 115]⟩, .string ⟨#[97]⟩, .int .i64 0, .string ⟨#[47]⟩, .string ⟨#[]⟩] 23; exact h
  replace BS := BS.reach (Reach.alloc (Reach.refl _) (.cells #[.bool false, .string ⟨#[104, 116, 116, 112, 115]⟩, .string ⟨#[97]⟩, .int .i64 0, .string ⟨#[47]⟩, .string ⟨#[]⟩] 23))
  replace BU := BU.reach (Reach.alloc (Reach.refl _) (.cells #[.bool false, .string ⟨#[104, 116, 116, 112, 115]⟩, .string ⟨#[97]⟩, .int .i64 0, .string ⟨#[47]⟩, .string ⟨#[]⟩] 23))
  replace Q := Reach.alloc Q (.cells #[.bool false, .string ⟨#[104, 116, 116, 112, 115]⟩, .string ⟨#[97]⟩, .int .i64 0, .string ⟨#[47]⟩, .string ⟨#[]⟩] 23)
  generalize W3.alloc (.cells #[.bool false, .string ⟨#[104, 116, 116, 112, 115]⟩, .string ⟨#[97]⟩, .int .i64 0, .string ⟨#[47]⟩, .string ⟨#[]⟩] 23) = X3 at BS BU BV Q ⊢
  generalize W3.heap.size = nBV at *
  obtain ⟨x0_0, x0_1, x0_2, x0_3, x0_4, x0_5, x0_6⟩ := BS.seven
  have xl0 := BS.lt
  obtain ⟨x1_0, x1_1, x1_2, x1_3, x1_4, x1_5⟩ := BU.six
  have xl1 := BU.lt
  obtain ⟨x2_0, x2_1, x2_2, x2_3, x2_4, x2_5⟩ := BV.six
  have xl2 := BV.lt
  go_wp2_with fail
  clear x0_0 x0_1 x0_2 x0_3 x0_4 x0_5 x0_6 xl0 x1_0 x1_1 x1_2 x1_3 x1_4 x1_5 xl1 x2_0 x2_1 x2_2 x2_3 x2_4 x2_5 xl2
  (with_reducible refine Calls.mono (H4.out _ (Env.reach HE.out Q)) ?_)
  rintro e W4 ⟨rfl, hr⟩
  replace Q := Reach.trans Q hr
  clear hr
  go_wp2_with fail
  go_ret
  exact ⟨rfl, Q⟩
set_option maxRecDepth 100000 in
set_option maxHeartbeats 2000000 in
theorem lets_2 (w : World) (hE : Env w) (hK : KeptIs w) : Calls Tryz.prog 52 #[.string ⟨#[97, 47, 120, 47]⟩, .string ⟨#[104, 116, 116, 112, 58, 47, 47, 97, 47, 120, 47, 121]⟩, .string ⟨#[104, 116, 116, 112, 58, 47, 47, 98]⟩, .bool false] w fun e w' => e = .returned (.bool true) ∧ Reach w w' := by
  have h1 := fun W (hE : Env W) => sparse2_calls W hE
  have h2 : ∀ W, Env W → Calls Tryz.prog 32 #[.string ⟨#[104, 116, 116, 112, 58, 47, 47, 97, 47, 120, 47, 121]⟩] W fun e w' => e = .returned (.tuple #[.agg #[.bool false, .string ⟨#[104, 116, 116, 112]⟩, .string ⟨#[97]⟩, .int .i64 0, .string ⟨#[47, 120, 47, 121]⟩, .string ⟨#[]⟩], .int .i64 0]) ∧ Reach W w' := by
    intro W hE
    have h := parse_calls [104, 116, 116, 112, 58, 47, 47, 97, 47, 120, 47, 121] W (by decide) hE
    rw [show parseU [104, 116, 116, 112, 58, 47, 47, 97, 47, 120, 47, 121] = ⟨false, [104, 116, 116, 112], [97], 0, [47, 120, 47, 121], []⟩ by decide +kernel, show parseE [104, 116, 116, 112, 58, 47, 47, 97, 47, 120, 47, 121] = 0 by decide +kernel] at h
    exact h
  have h3 : ∀ W, Env W → Calls Tryz.prog 32 #[.string ⟨#[104, 116, 116, 112, 58, 47, 47, 98]⟩] W fun e w' => e = .returned (.tuple #[.agg #[.bool false, .string ⟨#[104, 116, 116, 112]⟩, .string ⟨#[98]⟩, .int .i64 0, .string ⟨#[47]⟩, .string ⟨#[]⟩], .int .i64 0]) ∧ Reach W w' := by
    intro W hE
    have h := parse_calls [104, 116, 116, 112, 58, 47, 47, 98] W (by decide) hE
    rw [show parseU [104, 116, 116, 112, 58, 47, 47, 98] = ⟨false, [104, 116, 116, 112], [98], 0, [47], []⟩ by decide +kernel, show parseE [104, 116, 116, 112, 58, 47, 47, 98] = 0 by decide +kernel] at h
    exact h
  have h4 := fun W (hE : Env W) => murl_calls 12 [] [] [97] false 0 [47, 120, 47] false [104, 116, 116, 112] [97] 0 [47, 120, 47, 121] [] false [104, 116, 116, 112] [98] 0 [47] [] false W (by decide) (by decide) (by decide) (by decide) (by decide) (by decide) (by decide) (by decide) (by decide) (by decide) (by decide) (by decide) (by decide) (by decide) (by decide) hE
  rw [show urlM ⟨12, [], [], [97], false, 0, [47, 120, 47]⟩ ⟨false, [104, 116, 116, 112], [97], 0, [47, 120, 47, 121], []⟩ ⟨false, [104, 116, 116, 112], [98], 0, [47], []⟩ false = true by decide +kernel] at h4
  have HE := Lib.hid hE
  have HK := Lib.hid hK
  have H1 := Lib.hid h1
  have H2 := Lib.hid h2
  have H3 := Lib.hid h3
  have H4 := Lib.hid h4
  clear hE hK h1 h2 h3 h4
  go_enter Tryz.func52, Tryz.ntmps52
  have Q := Reach.refl w
  go_wp2_with fail
  (with_reducible refine Calls.mono (H1.out _ (Env.reach HE.out Q)) ?_)
  rintro e W1 ⟨rfl, hr⟩
  replace Q := Reach.trans Q hr
  clear hr
  go_wp2_with fail
  have BS : Blk (W1.alloc (.cells #[.int .i64 12, .string ⟨#[]⟩, .string ⟨#[]⟩, .string ⟨#[97]⟩, .bool false, .int .i64 0, .string ⟨#[47, 120, 47]⟩] 33)) (W1.heap.size) #[.int .i64 12, .string ⟨#[]⟩, .string ⟨#[]⟩, .string ⟨#[97]⟩, .bool false, .int .i64 0, .string ⟨#[47, 120, 47]⟩] 33 := by have h := Blk.new W1 #[.int .i64 12, .string ⟨#[]⟩, .string ⟨#[]⟩, .string ⟨#[97]⟩, .bool false, .int .i64 0, .string ⟨#[47, 120, 47]⟩] 33; exact h
  replace Q := Reach.alloc Q (.cells #[.int .i64 12, .string ⟨#[]⟩, .string ⟨#[]⟩, .string ⟨#[97]⟩, .bool false, .int .i64 0, .string ⟨#[47, 120, 47]⟩] 33)
  generalize W1.alloc (.cells #[.int .i64 12, .string ⟨#[]⟩, .string ⟨#[]⟩, .string ⟨#[97]⟩, .bool false, .int .i64 0, .string ⟨#[47, 120, 47]⟩] 33) = X1 at BS Q ⊢
  generalize W1.heap.size = nBS at *
  (with_reducible refine Calls.mono (H2.out _ (Env.reach HE.out Q)) ?_)
  rintro e W2 ⟨rfl, hr⟩
  replace BS := BS.reach hr
  replace Q := Reach.trans Q hr
  clear hr
  obtain ⟨x0_0, x0_1, x0_2, x0_3, x0_4, x0_5, x0_6⟩ := BS.seven
  have xl0 := BS.lt
  go_wp2_with fail
  clear x0_0 x0_1 x0_2 x0_3 x0_4 x0_5 x0_6 xl0
  have BU : Blk (W2.alloc (.cells #[.bool false, .string ⟨#[104, 116, 116, 112]⟩, .string ⟨#[97]⟩, .int .i64 0, .string ⟨#[47, 120, 47, 121]⟩, .string ⟨#[]⟩] 23)) (W2.heap.size) #[.bool false, .string ⟨#[104, 116, 116, 112]⟩, .string ⟨#[97]⟩, .int .i64 0, .string ⟨#[47, 120, 47, 121]⟩, .string ⟨#[]⟩] 23 := by have h := Blk.new W2 #[.bool false, .string ⟨#[104, 116, 116, 112]⟩, .string ⟨#[97]⟩, .int .i64 0, .string ⟨#[47, 120, 47, 121]⟩, .string ⟨#[]⟩] 23; exact h
  replace BS := BS.reach (Reach.alloc (Reach.refl _) (.cells #[.bool false, .string ⟨#[104, 116, 116, 112]⟩, .string ⟨#[97]⟩, .int .i64 0, .string ⟨#[47, 120, 47, 121]⟩, .string ⟨#[]⟩] 23))
  replace Q := Reach.alloc Q (.cells #[.bool false, .string ⟨#[104, 116, 116, 112]⟩, .string ⟨#[97]⟩, .int .i64 0, .string ⟨#[47, 120, 47, 121]⟩, .string ⟨#[]⟩] 23)
  generalize W2.alloc (.cells #[.bool false, .string ⟨#[104, 116, 116, 112]⟩, .string ⟨#[97]⟩, .int .i64 0, .string ⟨#[47, 120, 47, 121]⟩, .string ⟨#[]⟩] 23) = X2 at BS BU Q ⊢
  generalize W2.heap.size = nBU at *
  (with_reducible refine Calls.mono (H3.out _ (Env.reach HE.out Q)) ?_)
  rintro e W3 ⟨rfl, hr⟩
  replace BS := BS.reach hr
  replace BU := BU.reach hr
  replace Q := Reach.trans Q hr
  clear hr
  obtain ⟨x0_0, x0_1, x0_2, x0_3, x0_4, x0_5, x0_6⟩ := BS.seven
  have xl0 := BS.lt
  obtain ⟨x1_0, x1_1, x1_2, x1_3, x1_4, x1_5⟩ := BU.six
  have xl1 := BU.lt
  go_wp2_with fail
  clear x0_0 x0_1 x0_2 x0_3 x0_4 x0_5 x0_6 xl0 x1_0 x1_1 x1_2 x1_3 x1_4 x1_5 xl1
  have BV : Blk (W3.alloc (.cells #[.bool false, .string ⟨#[104, 116, 116, 112]⟩, .string ⟨#[98]⟩, .int .i64 0, .string ⟨#[47]⟩, .string ⟨#[]⟩] 23)) (W3.heap.size) #[.bool false, .string ⟨#[104, 116, 116, 112]⟩, .string ⟨#[98]⟩, .int .i64 0, .string ⟨#[47]⟩, .string ⟨#[]⟩] 23 := by have h := Blk.new W3 #[.bool false, .string ⟨#[104, 116, 116, 112]⟩, .string ⟨#[98]⟩, .int .i64 0, .string ⟨#[47]⟩, .string ⟨#[]⟩] 23; exact h
  replace BS := BS.reach (Reach.alloc (Reach.refl _) (.cells #[.bool false, .string ⟨#[104, 116, 116, 112]⟩, .string ⟨#[98]⟩, .int .i64 0, .string ⟨#[47]⟩, .string ⟨#[]⟩] 23))
  replace BU := BU.reach (Reach.alloc (Reach.refl _) (.cells #[.bool false, .string ⟨#[104, 116, 116, 112]⟩, .string ⟨#[98]⟩, .int .i64 0, .string ⟨#[47]⟩, .string ⟨#[]⟩] 23))
  replace Q := Reach.alloc Q (.cells #[.bool false, .string ⟨#[104, 116, 116, 112]⟩, .string ⟨#[98]⟩, .int .i64 0, .string ⟨#[47]⟩, .string ⟨#[]⟩] 23)
  generalize W3.alloc (.cells #[.bool false, .string ⟨#[104, 116, 116, 112]⟩, .string ⟨#[98]⟩, .int .i64 0, .string ⟨#[47]⟩, .string ⟨#[]⟩] 23) = X3 at BS BU BV Q ⊢
  generalize W3.heap.size = nBV at *
  obtain ⟨x0_0, x0_1, x0_2, x0_3, x0_4, x0_5, x0_6⟩ := BS.seven
  have xl0 := BS.lt
  obtain ⟨x1_0, x1_1, x1_2, x1_3, x1_4, x1_5⟩ := BU.six
  have xl1 := BU.lt
  obtain ⟨x2_0, x2_1, x2_2, x2_3, x2_4, x2_5⟩ := BV.six
  have xl2 := BV.lt
  go_wp2_with fail
  clear x0_0 x0_1 x0_2 x0_3 x0_4 x0_5 x0_6 xl0 x1_0 x1_1 x1_2 x1_3 x1_4 x1_5 xl1 x2_0 x2_1 x2_2 x2_3 x2_4 x2_5 xl2
  (with_reducible refine Calls.mono (H4.out _ (Env.reach HE.out Q)) ?_)
  rintro e W4 ⟨rfl, hr⟩
  replace Q := Reach.trans Q hr
  clear hr
  go_wp2_with fail
  go_ret
  exact ⟨rfl, Q⟩
set_option maxRecDepth 100000 in
set_option maxHeartbeats 2000000 in
theorem lets_3 (w : World) (hE : Env w) (hK : KeptIs w) : Calls Tryz.prog 52 #[.string ⟨#[97, 47, 120]⟩, .string ⟨#[104, 116, 116, 112, 58, 47, 47, 97, 47, 120, 47, 121]⟩, .string ⟨#[104, 116, 116, 112, 58, 47, 47, 98]⟩, .bool false] w fun e w' => e = .returned (.bool false) ∧ Reach w w' := by
  have h1 := fun W (hE : Env W) => sparse3_calls W hE
  have h2 : ∀ W, Env W → Calls Tryz.prog 32 #[.string ⟨#[104, 116, 116, 112, 58, 47, 47, 97, 47, 120, 47, 121]⟩] W fun e w' => e = .returned (.tuple #[.agg #[.bool false, .string ⟨#[104, 116, 116, 112]⟩, .string ⟨#[97]⟩, .int .i64 0, .string ⟨#[47, 120, 47, 121]⟩, .string ⟨#[]⟩], .int .i64 0]) ∧ Reach W w' := by
    intro W hE
    have h := parse_calls [104, 116, 116, 112, 58, 47, 47, 97, 47, 120, 47, 121] W (by decide) hE
    rw [show parseU [104, 116, 116, 112, 58, 47, 47, 97, 47, 120, 47, 121] = ⟨false, [104, 116, 116, 112], [97], 0, [47, 120, 47, 121], []⟩ by decide +kernel, show parseE [104, 116, 116, 112, 58, 47, 47, 97, 47, 120, 47, 121] = 0 by decide +kernel] at h
    exact h
  have h3 : ∀ W, Env W → Calls Tryz.prog 32 #[.string ⟨#[104, 116, 116, 112, 58, 47, 47, 98]⟩] W fun e w' => e = .returned (.tuple #[.agg #[.bool false, .string ⟨#[104, 116, 116, 112]⟩, .string ⟨#[98]⟩, .int .i64 0, .string ⟨#[47]⟩, .string ⟨#[]⟩], .int .i64 0]) ∧ Reach W w' := by
    intro W hE
    have h := parse_calls [104, 116, 116, 112, 58, 47, 47, 98] W (by decide) hE
    rw [show parseU [104, 116, 116, 112, 58, 47, 47, 98] = ⟨false, [104, 116, 116, 112], [98], 0, [47], []⟩ by decide +kernel, show parseE [104, 116, 116, 112, 58, 47, 47, 98] = 0 by decide +kernel] at h
    exact h
  have h4 := fun W (hE : Env W) => murl_calls 12 [] [] [97] false 0 [47, 120] false [104, 116, 116, 112] [97] 0 [47, 120, 47, 121] [] false [104, 116, 116, 112] [98] 0 [47] [] false W (by decide) (by decide) (by decide) (by decide) (by decide) (by decide) (by decide) (by decide) (by decide) (by decide) (by decide) (by decide) (by decide) (by decide) (by decide) hE
  rw [show urlM ⟨12, [], [], [97], false, 0, [47, 120]⟩ ⟨false, [104, 116, 116, 112], [97], 0, [47, 120, 47, 121], []⟩ ⟨false, [104, 116, 116, 112], [98], 0, [47], []⟩ false = false by decide +kernel] at h4
  have HE := Lib.hid hE
  have HK := Lib.hid hK
  have H1 := Lib.hid h1
  have H2 := Lib.hid h2
  have H3 := Lib.hid h3
  have H4 := Lib.hid h4
  clear hE hK h1 h2 h3 h4
  go_enter Tryz.func52, Tryz.ntmps52
  have Q := Reach.refl w
  go_wp2_with fail
  (with_reducible refine Calls.mono (H1.out _ (Env.reach HE.out Q)) ?_)
  rintro e W1 ⟨rfl, hr⟩
  replace Q := Reach.trans Q hr
  clear hr
  go_wp2_with fail
  have BS : Blk (W1.alloc (.cells #[.int .i64 12, .string ⟨#[]⟩, .string ⟨#[]⟩, .string ⟨#[97]⟩, .bool false, .int .i64 0, .string ⟨#[47, 120]⟩] 33)) (W1.heap.size) #[.int .i64 12, .string ⟨#[]⟩, .string ⟨#[]⟩, .string ⟨#[97]⟩, .bool false, .int .i64 0, .string ⟨#[47, 120]⟩] 33 := by have h := Blk.new W1 #[.int .i64 12, .string ⟨#[]⟩, .string ⟨#[]⟩, .string ⟨#[97]⟩, .bool false, .int .i64 0, .string ⟨#[47, 120]⟩] 33; exact h
  replace Q := Reach.alloc Q (.cells #[.int .i64 12, .string ⟨#[]⟩, .string ⟨#[]⟩, .string ⟨#[97]⟩, .bool false, .int .i64 0, .string ⟨#[47, 120]⟩] 33)
  generalize W1.alloc (.cells #[.int .i64 12, .string ⟨#[]⟩, .string ⟨#[]⟩, .string ⟨#[97]⟩, .bool false, .int .i64 0, .string ⟨#[47, 120]⟩] 33) = X1 at BS Q ⊢
  generalize W1.heap.size = nBS at *
  (with_reducible refine Calls.mono (H2.out _ (Env.reach HE.out Q)) ?_)
  rintro e W2 ⟨rfl, hr⟩
  replace BS := BS.reach hr
  replace Q := Reach.trans Q hr
  clear hr
  obtain ⟨x0_0, x0_1, x0_2, x0_3, x0_4, x0_5, x0_6⟩ := BS.seven
  have xl0 := BS.lt
  go_wp2_with fail
  clear x0_0 x0_1 x0_2 x0_3 x0_4 x0_5 x0_6 xl0
  have BU : Blk (W2.alloc (.cells #[.bool false, .string ⟨#[104, 116, 116, 112]⟩, .string ⟨#[97]⟩, .int .i64 0, .string ⟨#[47, 120, 47, 121]⟩, .string ⟨#[]⟩] 23)) (W2.heap.size) #[.bool false, .string ⟨#[104, 116, 116, 112]⟩, .string ⟨#[97]⟩, .int .i64 0, .string ⟨#[47, 120, 47, 121]⟩, .string ⟨#[]⟩] 23 := by have h := Blk.new W2 #[.bool false, .string ⟨#[104, 116, 116, 112]⟩, .string ⟨#[97]⟩, .int .i64 0, .string ⟨#[47, 120, 47, 121]⟩, .string ⟨#[]⟩] 23; exact h
  replace BS := BS.reach (Reach.alloc (Reach.refl _) (.cells #[.bool false, .string ⟨#[104, 116, 116, 112]⟩, .string ⟨#[97]⟩, .int .i64 0, .string ⟨#[47, 120, 47, 121]⟩, .string ⟨#[]⟩] 23))
  replace Q := Reach.alloc Q (.cells #[.bool false, .string ⟨#[104, 116, 116, 112]⟩, .string ⟨#[97]⟩, .int .i64 0, .string ⟨#[47, 120, 47, 121]⟩, .string ⟨#[]⟩] 23)
  generalize W2.alloc (.cells #[.bool false, .string ⟨#[104, 116, 116, 112]⟩, .string ⟨#[97]⟩, .int .i64 0, .string ⟨#[47, 120, 47, 121]⟩, .string ⟨#[]⟩] 23) = X2 at BS BU Q ⊢
  generalize W2.heap.size = nBU at *
  (with_reducible refine Calls.mono (H3.out _ (Env.reach HE.out Q)) ?_)
  rintro e W3 ⟨rfl, hr⟩
  replace BS := BS.reach hr
  replace BU := BU.reach hr
  replace Q := Reach.trans Q hr
  clear hr
  obtain ⟨x0_0, x0_1, x0_2, x0_3, x0_4, x0_5, x0_6⟩ := BS.seven
  have xl0 := BS.lt
  obtain ⟨x1_0, x1_1, x1_2, x1_3, x1_4, x1_5⟩ := BU.six
  have xl1 := BU.lt
  go_wp2_with fail
  clear x0_0 x0_1 x0_2 x0_3 x0_4 x0_5 x0_6 xl0 x1_0 x1_1 x1_2 x1_3 x1_4 x1_5 xl1
  have BV : Blk (W3.alloc (.cells #[.bool false, .string ⟨#[104, 116, 116, 112]⟩, .string ⟨#[98]⟩, .int .i64 0, .string ⟨#[47]⟩, .string ⟨#[]⟩] 23)) (W3.heap.size) #[.bool false, .string ⟨#[104, 116, 116, 112]⟩, .string ⟨#[98]⟩, .int .i64 0, .string ⟨#[47]⟩, .string ⟨#[]⟩] 23 := by have h := Blk.new W3 #[.bool false, .string ⟨#[104, 116, 116, 112]⟩, .string ⟨#[98]⟩, .int .i64 0, .string ⟨#[47]⟩, .string ⟨#[]⟩] 23; exact h
  replace BS := BS.reach (Reach.alloc (Reach.refl _) (.cells #[.bool false, .string ⟨#[104, 116, 116, 112]⟩, .string ⟨#[98]⟩, .int .i64 0, .string ⟨#[47]⟩, .string ⟨#[]⟩] 23))
  replace BU := BU.reach (Reach.alloc (Reach.refl _) (.cells #[.bool false, .string ⟨#[104, 116, 116, 112]⟩, .string ⟨#[98]⟩, .int .i64 0, .string ⟨#[47]⟩, .string ⟨#[]⟩] 23))
  replace Q := Reach.alloc Q (.cells #[.bool false, .string ⟨#[104, 116, 116, 112]⟩, .string ⟨#[98]⟩, .int .i64 0, .string ⟨#[47]⟩, .string ⟨#[]⟩] 23)
  generalize W3.alloc (.cells #[.bool false, .string ⟨#[104, 116, 116, 112]⟩, .string ⟨#[98]⟩, .int .i64 0, .string ⟨#[47]⟩, .string ⟨#[]⟩] 23) = X3 at BS BU BV Q ⊢
  generalize W3.heap.size = nBV at *
  obtain ⟨x0_0, x0_1, x0_2, x0_3, x0_4, x0_5, x0_6⟩ := BS.seven
  have xl0 := BS.lt
  obtain ⟨x1_0, x1_1, x1_2, x1_3, x1_4, x1_5⟩ := BU.six
  have xl1 := BU.lt
  obtain ⟨x2_0, x2_1, x2_2, x2_3, x2_4, x2_5⟩ := BV.six
  have xl2 := BV.lt
  go_wp2_with fail
  clear x0_0 x0_1 x0_2 x0_3 x0_4 x0_5 x0_6 xl0 x1_0 x1_1 x1_2 x1_3 x1_4 x1_5 xl1 x2_0 x2_1 x2_2 x2_3 x2_4 x2_5 xl2
  (with_reducible refine Calls.mono (H4.out _ (Env.reach HE.out Q)) ?_)
  rintro e W4 ⟨rfl, hr⟩
  replace Q := Reach.trans Q hr
  clear hr
  go_wp2_with fail
  go_ret
  exact ⟨rfl, Q⟩
set_option maxRecDepth 100000 in
set_option maxHeartbeats 2000000 in
theorem lets_4 (w : World) (hE : Env w) (hK : KeptIs w) : Calls Tryz.prog 52 #[.string ⟨#[97, 47, 120]⟩, .string ⟨#[104, 116, 116, 112, 58, 47, 47, 97, 47, 120, 47, 121]⟩, .string ⟨#[104, 116, 116, 112, 58, 47, 47, 98]⟩, .bool true] w fun e w' => e = .returned (.bool true) ∧ Reach w w' := by
  have h1 := fun W (hE : Env W) => sparse3_calls W hE
  have h2 : ∀ W, Env W → Calls Tryz.prog 32 #[.string ⟨#[104, 116, 116, 112, 58, 47, 47, 97, 47, 120, 47, 121]⟩] W fun e w' => e = .returned (.tuple #[.agg #[.bool false, .string ⟨#[104, 116, 116, 112]⟩, .string ⟨#[97]⟩, .int .i64 0, .string ⟨#[47, 120, 47, 121]⟩, .string ⟨#[]⟩], .int .i64 0]) ∧ Reach W w' := by
    intro W hE
    have h := parse_calls [104, 116, 116, 112, 58, 47, 47, 97, 47, 120, 47, 121] W (by decide) hE
    rw [show parseU [104, 116, 116, 112, 58, 47, 47, 97, 47, 120, 47, 121] = ⟨false, [104, 116, 116, 112], [97], 0, [47, 120, 47, 121], []⟩ by decide +kernel, show parseE [104, 116, 116, 112, 58, 47, 47, 97, 47, 120, 47, 121] = 0 by decide +kernel] at h
    exact h
  have h3 : ∀ W, Env W → Calls Tryz.prog 32 #[.string ⟨#[104, 116, 116, 112, 58, 47, 47, 98]⟩] W fun e w' => e = .returned (.tuple #[.agg #[.bool false, .string ⟨#[104, 116, 116, 112]⟩, .string ⟨#[98]⟩, .int .i64 0, .string ⟨#[47]⟩, .string ⟨#[]⟩], .int .i64 0]) ∧ Reach W w' := by
    intro W hE
    have h := parse_calls [104, 116, 116, 112, 58, 47, 47, 98] W (by decide) hE
    rw [show parseU [104, 116, 116, 112, 58, 47, 47, 98] = ⟨false, [104, 116, 116, 112], [98], 0, [47], []⟩ by decide +kernel, show parseE [104, 116, 116, 112, 58, 47, 47, 98] = 0 by decide +kernel] at h
    exact h
  have h4 := fun W (hE : Env W) => murl_calls 12 [] [] [97] false 0 [47, 120] false [104, 116, 116, 112] [97] 0 [47, 120, 47, 121] [] false [104, 116, 116, 112] [98] 0 [47] [] true W (by decide) (by decide) (by decide) (by decide) (by decide) (by decide) (by decide) (by decide) (by decide) (by decide) (by decide) (by decide) (by decide) (by decide) (by decide) hE
  rw [show urlM ⟨12, [], [], [97], false, 0, [47, 120]⟩ ⟨false, [104, 116, 116, 112], [97], 0, [47, 120, 47, 121], []⟩ ⟨false, [104, 116, 116, 112], [98], 0, [47], []⟩ true = true by decide +kernel] at h4
  have HE := Lib.hid hE
  have HK := Lib.hid hK
  have H1 := Lib.hid h1
  have H2 := Lib.hid h2
  have H3 := Lib.hid h3
  have H4 := Lib.hid h4
  clear hE hK h1 h2 h3 h4
  go_enter Tryz.func52, Tryz.ntmps52
  have Q := Reach.refl w
  go_wp2_with fail
  (with_reducible refine Calls.mono (H1.out _ (Env.reach HE.out Q)) ?_)
  rintro e W1 ⟨rfl, hr⟩
  replace Q := Reach.trans Q hr
  clear hr
  go_wp2_with fail
  have BS : Blk (W1.alloc (.cells #[.int .i64 12, .string ⟨#[]⟩, .string ⟨#[]⟩, .string ⟨#[97]⟩, .bool false, .int .i64 0, .string ⟨#[47, 120]⟩] 33)) (W1.heap.size) #[.int .i64 12, .string ⟨#[]⟩, .string ⟨#[]⟩, .string ⟨#[97]⟩, .bool false, .int .i64 0, .string ⟨#[47, 120]⟩] 33 := by have h := Blk.new W1 #[.int .i64 12, .string ⟨#[]⟩, .string ⟨#[]⟩, .string ⟨#[97]⟩, .bool false, .int .i64 0, .string ⟨#[47, 120]⟩] 33; exact h
  replace Q := Reach.alloc Q (.cells #[.int .i64 12, .string ⟨#[]⟩, .string ⟨#[]⟩, .string ⟨#[97]⟩, .bool false, .int .i64 0, .string ⟨#[47, 120]⟩] 33)
  generalize W1.alloc (.cells #[.int .i64 12, .string ⟨#[]⟩, .string ⟨#[]⟩, .string ⟨#[97]⟩, .bool false, .int .i64 0, .string ⟨#[47, 120]⟩] 33) = X1 at BS Q ⊢
  generalize W1.heap.size = nBS at *
  (with_reducible refine Calls.mono (H2.out _ (Env.reach HE.out Q)) ?_)
  rintro e W2 ⟨rfl, hr⟩
  replace BS := BS.reach hr
  replace Q := Reach.trans Q hr
  clear hr
  obtain ⟨x0_0, x0_1, x0_2, x0_3, x0_4, x0_5, x0_6⟩ := BS.seven
  have xl0 := BS.lt
  go_wp2_with fail
  clear x0_0 x0_1 x0_2 x0_3 x0_4 x0_5 x0_6 xl0
  have BU : Blk (W2.alloc (.cells #[.bool false, .string ⟨#[104, 116, 116, 112]⟩, .string ⟨#[97]⟩, .int .i64 0, .string ⟨#[47, 120, 47, 121]⟩, .string ⟨#[]⟩] 23)) (W2.heap.size) #[.bool false, .string ⟨#[104, 116, 116, 112]⟩, .string ⟨#[97]⟩, .int .i64 0, .string ⟨#[47, 120, 47, 121]⟩, .string ⟨#[]⟩] 23 := by have h := Blk.new W2 #[.bool false, .string ⟨#[104, 116, 116, 112]⟩, .string ⟨#[97]⟩, .int .i64 0, .string ⟨#[47, 120, 47, 121]⟩, .string ⟨#[]⟩] 23; exact h
  replace BS := BS.reach (Reach.alloc (Reach.refl _) (.cells #[.bool false, .string ⟨#[104, 116, 116, 112]⟩, .string ⟨#[97]⟩, .int .i64 0, .string ⟨#[47, 120, 47, 121]⟩, .string ⟨#[]⟩] 23))
  replace Q := Reach.alloc Q (.cells #[.bool false, .string ⟨#[104, 116, 116, 112]⟩, .string ⟨#[97]⟩, .int .i64 0, .string ⟨#[47, 120, 47, 121]⟩, .string ⟨#[]⟩] 23)
  generalize W2.alloc (.cells #[.bool false, .string ⟨#[104, 116, 116, 112]⟩, .string ⟨#[97]⟩, .int .i64 0, .string ⟨#[47, 120, 47, 121]⟩, .string ⟨#[]⟩] 23) = X2 at BS BU Q ⊢
  generalize W2.heap.size = nBU at *
  (with_reducible refine Calls.mono (H3.out _ (Env.reach HE.out Q)) ?_)
  rintro e W3 ⟨rfl, hr⟩
  replace BS := BS.reach hr
  replace BU := BU.reach hr
  replace Q := Reach.trans Q hr
  clear hr
  obtain ⟨x0_0, x0_1, x0_2, x0_3, x0_4, x0_5, x0_6⟩ := BS.seven
  have xl0 := BS.lt
  obtain ⟨x1_0, x1_1, x1_2, x1_3, x1_4, x1_5⟩ := BU.six
  have xl1 := BU.lt
  go_wp2_with fail
  clear x0_0 x0_1 x0_2 x0_3 x0_4 x0_5 x0_6 xl0 x1_0 x1_1 x1_2 x1_3 x1_4 x1_5 xl1
  have BV : Blk (W3.alloc (.cells #[.bool false, .string ⟨#[104, 116, 116, 112]⟩, .string ⟨#[98]⟩, .int .i64 0, .string ⟨#[47]⟩, .string ⟨#[]⟩] 23)) (W3.heap.size) #[.bool false, .string ⟨#[104, 116, 116, 112]⟩, .string ⟨#[98]⟩, .int .i64 0, .string ⟨#[47]⟩, .string ⟨#[]⟩] 23 := by have h := Blk.new W3 #[.bool false, .string ⟨#[104, 116, 116, 112]⟩, .string ⟨#[98]⟩, .int .i64 0, .string ⟨#[47]⟩, .string ⟨#[]⟩] 23; exact h
  replace BS := BS.reach (Reach.alloc (Reach.refl _) (.cells #[.bool false, .string ⟨#[104, 116, 116, 112]⟩, .string ⟨#[98]⟩, .int .i64 0, .string ⟨#[47]⟩, .string ⟨#[]⟩] 23))
  replace BU := BU.reach (Reach.alloc (Reach.refl _) (.cells #[.bool false, .string ⟨#[104, 116, 116, 112]⟩, .string ⟨#[98]⟩, .int .i64 0, .string ⟨#[47]⟩, .string ⟨#[]⟩] 23))
  replace Q := Reach.alloc Q (.cells #[.bool false, .string ⟨#[104, 116, 116, 112]⟩, .string ⟨#[98]⟩, .int .i64 0, .string ⟨#[47]⟩, .string ⟨#[]⟩] 23)
  generalize W3.alloc (.cells #[.bool false, .string ⟨#[104, 116, 116, 112]⟩, .string ⟨#[98]⟩, .int .i64 0, .string ⟨#[47]⟩, .string ⟨#[]⟩] 23) = X3 at BS BU BV Q ⊢
  generalize W3.heap.size = nBV at *
  obtain ⟨x0_0, x0_1, x0_2, x0_3, x0_4, x0_5, x0_6⟩ := BS.seven
  have xl0 := BS.lt
  obtain ⟨x1_0, x1_1, x1_2, x1_3, x1_4, x1_5⟩ := BU.six
  have xl1 := BU.lt
  obtain ⟨x2_0, x2_1, x2_2, x2_3, x2_4, x2_5⟩ := BV.six
  have xl2 := BV.lt
  go_wp2_with fail
  clear x0_0 x0_1 x0_2 x0_3 x0_4 x0_5 x0_6 xl0 x1_0 x1_1 x1_2 x1_3 x1_4 x1_5 xl1 x2_0 x2_1 x2_2 x2_3 x2_4 x2_5 xl2
  (with_reducible refine Calls.mono (H4.out _ (Env.reach HE.out Q)) ?_)
  rintro e W4 ⟨rfl, hr⟩
  replace Q := Reach.trans Q hr
  clear hr
  go_wp2_with fail
  go_ret
  exact ⟨rfl, Q⟩
set_option maxRecDepth 100000 in
set_option maxHeartbeats 2000000 in
theorem lets_5 (w : World) (hE : Env w) (hK : KeptIs w) : Calls Tryz.prog 52 #[.string ⟨#[39, 115, 101, 108, 102, 39]⟩, .string ⟨#[104, 116, 116, 112, 115, 58, 47, 47, 97, 47]⟩, .string ⟨#[104, 116, 116, 112, 58, 47, 47, 97, 47, 122]⟩, .bool false] w fun e w' => e = .returned (.bool true) ∧ Reach w w' := by
  have h1 := fun W (hE : Env W) (hK : KeptIs W) => sparse4_calls W hE hK
  have h2 : ∀ W, Env W → Calls Tryz.prog 32 #[.string ⟨#[104, 116, 116, 112, 115, 58, 47, 47, 97, 47]⟩] W fun e w' => e = .returned (.tuple #[.agg #[.bool false, .string ⟨#[104, 116, 116, 112, 115]⟩, .string ⟨#[97]⟩, .int .i64 0, .string ⟨#[47]⟩, .string ⟨#[]⟩], .int .i64 0]) ∧ Reach W w' := by
    intro W hE
    have h := parse_calls [104, 116, 116, 112, 115, 58, 47, 47, 97, 47] W (by decide) hE
    rw [show parseU [104, 116, 116, 112, 115, 58, 47, 47, 97, 47] = ⟨false, [104, 116, 116, 112, 115], [97], 0, [47], []⟩ by decide +kernel, show parseE [104, 116, 116, 112, 115, 58, 47, 47, 97, 47] = 0 by decide +kernel] at h
    exact h
  have h3 : ∀ W, Env W → Calls Tryz.prog 32 #[.string ⟨#[104, 116, 116, 112, 58, 47, 47, 97, 47, 122]⟩] W fun e w' => e = .returned (.tuple #[.agg #[.bool false, .string ⟨#[104, 116, 116, 112]⟩, .string ⟨#[97]⟩, .int .i64 0, .string ⟨#[47, 122]⟩, .string ⟨#[]⟩], .int .i64 0]) ∧ Reach W w' := by
    intro W hE
    have h := parse_calls [104, 116, 116, 112, 58, 47, 47, 97, 47, 122] W (by decide) hE
    rw [show parseU [104, 116, 116, 112, 58, 47, 47, 97, 47, 122] = ⟨false, [104, 116, 116, 112], [97], 0, [47, 122], []⟩ by decide +kernel, show parseE [104, 116, 116, 112, 58, 47, 47, 97, 47, 122] = 0 by decide +kernel] at h
    exact h
  have h4 := fun W (hE : Env W) => murl_calls 2 [] [] [] false 0 [] false [104, 116, 116, 112, 115] [97] 0 [47] [] false [104, 116, 116, 112] [97] 0 [47, 122] [] false W (by decide) (by decide) (by decide) (by decide) (by decide) (by decide) (by decide) (by decide) (by decide) (by decide) (by decide) (by decide) (by decide) (by decide) (by decide) hE
  rw [show urlM ⟨2, [], [], [], false, 0, []⟩ ⟨false, [104, 116, 116, 112, 115], [97], 0, [47], []⟩ ⟨false, [104, 116, 116, 112], [97], 0, [47, 122], []⟩ false = true by decide +kernel] at h4
  have HE := Lib.hid hE
  have HK := Lib.hid hK
  have H1 := Lib.hid h1
  have H2 := Lib.hid h2
  have H3 := Lib.hid h3
  have H4 := Lib.hid h4
  clear hE hK h1 h2 h3 h4
  go_enter Tryz.func52, Tryz.ntmps52
  have Q := Reach.refl w
  go_wp2_with fail
  (with_reducible refine Calls.mono (H1.out _ (Env.reach HE.out Q) (KeptIs.reach HK.out Q)) ?_)
  rintro e W1 ⟨rfl, hr⟩
  replace Q := Reach.trans Q hr
  clear hr
  go_wp2_with fail
  have BS : Blk (W1.alloc (.cells #[.int .i64 2, .string ⟨#[]⟩, .string ⟨#[]⟩, .string ⟨#[]⟩, .bool false, .int .i64 0, .string ⟨#[]⟩] 33)) (W1.heap.size) #[.int .i64 2, .string ⟨#[]⟩, .string ⟨#[]⟩, .string ⟨#[]⟩, .bool false, .int .i64 0, .string ⟨#[]⟩] 33 := by have h := Blk.new W1 #[.int .i64 2, .string ⟨#[]⟩, .string ⟨#[]⟩, .string ⟨#[]⟩, .bool false, .int .i64 0, .string ⟨#[]⟩] 33; exact h
  replace Q := Reach.alloc Q (.cells #[.int .i64 2, .string ⟨#[]⟩, .string ⟨#[]⟩, .string ⟨#[]⟩, .bool false, .int .i64 0, .string ⟨#[]⟩] 33)
  generalize W1.alloc (.cells #[.int .i64 2, .string ⟨#[]⟩, .string ⟨#[]⟩, .string ⟨#[]⟩, .bool false, .int .i64 0, .string ⟨#[]⟩] 33) = X1 at BS Q ⊢
  generalize W1.heap.size = nBS at *
  (with_reducible refine Calls.mono (H2.out _ (Env.reach HE.out Q)) ?_)
  rintro e W2 ⟨rfl, hr⟩
  replace BS := BS.reach hr
  replace Q := Reach.trans Q hr
  clear hr
  obtain ⟨x0_0, x0_1, x0_2, x0_3, x0_4, x0_5, x0_6⟩ := BS.seven
  have xl0 := BS.lt
  go_wp2_with fail
  clear x0_0 x0_1 x0_2 x0_3 x0_4 x0_5 x0_6 xl0
  have BU : Blk (W2.alloc (.cells #[.bool false, .string ⟨#[104, 116, 116, 112, 115]⟩, .string ⟨#[97]⟩, .int .i64 0, .string ⟨#[47]⟩, .string ⟨#[]⟩] 23)) (W2.heap.size) #[.bool false, .string ⟨#[104, 116, 116, 112, 115]⟩, .string ⟨#[97]⟩, .int .i64 0, .string ⟨#[47]⟩, .string ⟨#[]⟩] 23 := by have h := Blk.new W2 #[.bool false, .string ⟨#[104, 116, 116, 112, 115]⟩, .string ⟨#[97]⟩, .int .i64 0, .string ⟨#[47]⟩, .string ⟨#[]⟩] 23; exact h
  replace BS := BS.reach (Reach.alloc (Reach.refl _) (.cells #[.bool false, .string ⟨#[104, 116, 116, 112, 115]⟩, .string ⟨#[97]⟩, .int .i64 0, .string ⟨#[47]⟩, .string ⟨#[]⟩] 23))
  replace Q := Reach.alloc Q (.cells #[.bool false, .string ⟨#[104, 116, 116, 112, 115]⟩, .string ⟨#[97]⟩, .int .i64 0, .string ⟨#[47]⟩, .string ⟨#[]⟩] 23)
  generalize W2.alloc (.cells #[.bool false, .string ⟨#[104, 116, 116, 112, 115]⟩, .string ⟨#[97]⟩, .int .i64 0, .string ⟨#[47]⟩, .string ⟨#[]⟩] 23) = X2 at BS BU Q ⊢
  generalize W2.heap.size = nBU at *
  (with_reducible refine Calls.mono (H3.out _ (Env.reach HE.out Q)) ?_)
  rintro e W3 ⟨rfl, hr⟩
  replace BS := BS.reach hr
  replace BU := BU.reach hr
  replace Q := Reach.trans Q hr
  clear hr
  obtain ⟨x0_0, x0_1, x0_2, x0_3, x0_4, x0_5, x0_6⟩ := BS.seven
  have xl0 := BS.lt
  obtain ⟨x1_0, x1_1, x1_2, x1_3, x1_4, x1_5⟩ := BU.six
  have xl1 := BU.lt
  go_wp2_with fail
  clear x0_0 x0_1 x0_2 x0_3 x0_4 x0_5 x0_6 xl0 x1_0 x1_1 x1_2 x1_3 x1_4 x1_5 xl1
  have BV : Blk (W3.alloc (.cells #[.bool false, .string ⟨#[104, 116, 116, 112]⟩, .string ⟨#[97]⟩, .int .i64 0, .string ⟨#[47, 122]⟩, .string ⟨#[]⟩] 23)) (W3.heap.size) #[.bool false, .string ⟨#[104, 116, 116, 112]⟩, .string ⟨#[97]⟩, .int .i64 0, .string ⟨#[47, 122]⟩, .string ⟨#[]⟩] 23 := by have h := Blk.new W3 #[.bool false, .string ⟨#[104, 116, 116, 112]⟩, .string ⟨#[97]⟩, .int .i64 0, .string ⟨#[47, 122]⟩, .string ⟨#[]⟩] 23; exact h
  replace BS := BS.reach (Reach.alloc (Reach.refl _) (.cells #[.bool false, .string ⟨#[104, 116, 116, 112]⟩, .string ⟨#[97]⟩, .int .i64 0, .string ⟨#[47, 122]⟩, .string ⟨#[]⟩] 23))
  replace BU := BU.reach (Reach.alloc (Reach.refl _) (.cells #[.bool false, .string ⟨#[104, 116, 116, 112]⟩, .string ⟨#[97]⟩, .int .i64 0, .string ⟨#[47, 122]⟩, .string ⟨#[]⟩] 23))
  replace Q := Reach.alloc Q (.cells #[.bool false, .string ⟨#[104, 116, 116, 112]⟩, .string ⟨#[97]⟩, .int .i64 0, .string ⟨#[47, 122]⟩, .string ⟨#[]⟩] 23)
  generalize W3.alloc (.cells #[.bool false, .string ⟨#[104, 116, 116, 112]⟩, .string ⟨#[97]⟩, .int .i64 0, .string ⟨#[47, 122]⟩, .string ⟨#[]⟩] 23) = X3 at BS BU BV Q ⊢
  generalize W3.heap.size = nBV at *
  obtain ⟨x0_0, x0_1, x0_2, x0_3, x0_4, x0_5, x0_6⟩ := BS.seven
  have xl0 := BS.lt
  obtain ⟨x1_0, x1_1, x1_2, x1_3, x1_4, x1_5⟩ := BU.six
  have xl1 := BU.lt
  obtain ⟨x2_0, x2_1, x2_2, x2_3, x2_4, x2_5⟩ := BV.six
  have xl2 := BV.lt
  go_wp2_with fail
  clear x0_0 x0_1 x0_2 x0_3 x0_4 x0_5 x0_6 xl0 x1_0 x1_1 x1_2 x1_3 x1_4 x1_5 xl1 x2_0 x2_1 x2_2 x2_3 x2_4 x2_5 xl2
  (with_reducible refine Calls.mono (H4.out _ (Env.reach HE.out Q)) ?_)
  rintro e W4 ⟨rfl, hr⟩
  replace Q := Reach.trans Q hr
  clear hr
  go_wp2_with fail
  go_ret
  exact ⟨rfl, Q⟩
set_option maxRecDepth 100000 in
set_option maxHeartbeats 2000000 in
theorem lets_6 (w : World) (hE : Env w) (hK : KeptIs w) : Calls Tryz.prog 52 #[.string ⟨#[39, 115, 101, 108, 102, 39]⟩, .string ⟨#[104, 116, 116, 112, 58, 47, 47, 97, 47]⟩, .string ⟨#[104, 116, 116, 112, 115, 58, 47, 47, 97, 47]⟩, .bool false] w fun e w' => e = .returned (.bool false) ∧ Reach w w' := by
  have h1 := fun W (hE : Env W) (hK : KeptIs W) => sparse4_calls W hE hK
  have h2 : ∀ W, Env W → Calls Tryz.prog 32 #[.string ⟨#[104, 116, 116, 112, 58, 47, 47, 97, 47]⟩] W fun e w' => e = .returned (.tuple #[.agg #[.bool false, .string ⟨#[104, 116, 116, 112]⟩, .string ⟨#[97]⟩, .int .i64 0, .string ⟨#[47]⟩, .string ⟨#[]⟩], .int .i64 0]) ∧ Reach W w' := by
    intro W hE
    have h := parse_calls [104, 116, 116, 112, 58, 47, 47, 97, 47] W (by decide) hE
    rw [show parseU [104, 116, 116, 112, 58, 47, 47, 97, 47] = ⟨false, [104, 116, 116, 112], [97], 0, [47], []⟩ by decide +kernel, show parseE [104, 116, 116, 112, 58, 47, 47, 97, 47] = 0 by decide +kernel] at h
    exact h
  have h3 : ∀ W, Env W → Calls Tryz.prog 32 #[.string ⟨#[104, 116, 116, 112, 115, 58, 47, 47, 97, 47]⟩] W fun e w' => e = .returned (.tuple #[.agg #[.bool false, .string ⟨#[104, 116, 116, 112, 115]⟩, .string ⟨#[97]⟩, .int .i64 0, .string ⟨#[47]⟩, .string ⟨#[]⟩], .int .i64 0]) ∧ Reach W w' := by
    intro W hE
    have h := parse_calls [104, 116, 116, 112, 115, 58, 47, 47, 97, 47] W (by decide) hE
    rw [show parseU [104, 116, 116, 112, 115, 58, 47, 47, 97, 47] = ⟨false, [104, 116, 116, 112, 115], [97], 0, [47], []⟩ by decide +kernel, show parseE [104, 116, 116, 112, 115, 58, 47, 47, 97, 47] = 0 by decide +kernel] at h
    exact h
  have h4 := fun W (hE : Env W) => murl_calls 2 [] [] [] false 0 [] false [104, 116, 116, 112] [97] 0 [47] [] false [104, 116, 116, 112, 115] [97] 0 [47] [] false W (by decide) (by decide) (by decide) (by decide) (by decide) (by decide) (by decide) (by decide) (by decide) (by decide) (by decide) (by decide) (by decide) (by decide) (by decide) hE
  rw [show urlM ⟨2, [], [], [], false, 0, []⟩ ⟨false, [104, 116, 116, 112], [97], 0, [47], []⟩ ⟨false, [104, 116, 116, 112, 115], [97], 0, [47], []⟩ false = false by decide +kernel] at h4
  have HE := Lib.hid hE
  have HK := Lib.hid hK
  have H1 := Lib.hid h1
  have H2 := Lib.hid h2
  have H3 := Lib.hid h3
  have H4 := Lib.hid h4
  clear hE hK h1 h2 h3 h4
  go_enter Tryz.func52, Tryz.ntmps52
  have Q := Reach.refl w
  go_wp2_with fail
  (with_reducible refine Calls.mono (H1.out _ (Env.reach HE.out Q) (KeptIs.reach HK.out Q)) ?_)
  rintro e W1 ⟨rfl, hr⟩
  replace Q := Reach.trans Q hr
  clear hr
  go_wp2_with fail
  have BS : Blk (W1.alloc (.cells #[.int .i64 2, .string ⟨#[]⟩, .string ⟨#[]⟩, .string ⟨#[]⟩, .bool false, .int .i64 0, .string ⟨#[]⟩] 33)) (W1.heap.size) #[.int .i64 2, .string ⟨#[]⟩, .string ⟨#[]⟩, .string ⟨#[]⟩, .bool false, .int .i64 0, .string ⟨#[]⟩] 33 := by have h := Blk.new W1 #[.int .i64 2, .string ⟨#[]⟩, .string ⟨#[]⟩, .string ⟨#[]⟩, .bool false, .int .i64 0, .string ⟨#[]⟩] 33; exact h
  replace Q := Reach.alloc Q (.cells #[.int .i64 2, .string ⟨#[]⟩, .string ⟨#[]⟩, .string ⟨#[]⟩, .bool false, .int .i64 0, .string ⟨#[]⟩] 33)
  generalize W1.alloc (.cells #[.int .i64 2, .string ⟨#[]⟩, .string ⟨#[]⟩, .string ⟨#[]⟩, .bool false, .int .i64 0, .string ⟨#[]⟩] 33) = X1 at BS Q ⊢
  generalize W1.heap.size = nBS at *
  (with_reducible refine Calls.mono (H2.out _ (Env.reach HE.out Q)) ?_)
  rintro e W2 ⟨rfl, hr⟩
  replace BS := BS.reach hr
  replace Q := Reach.trans Q hr
  clear hr
  obtain ⟨x0_0, x0_1, x0_2, x0_3, x0_4, x0_5, x0_6⟩ := BS.seven
  have xl0 := BS.lt
  go_wp2_with fail
  clear x0_0 x0_1 x0_2 x0_3 x0_4 x0_5 x0_6 xl0
  have BU : Blk (W2.alloc (.cells #[.bool false, .string ⟨#[104, 116, 116, 112]⟩, .string ⟨#[97]⟩, .int .i64 0, .string ⟨#[47]⟩, .string ⟨#[]⟩] 23)) (W2.heap.size) #[.bool false, .string ⟨#[104, 116, 116, 112]⟩, .string ⟨#[97]⟩, .int .i64 0, .string ⟨#[47]⟩, .string ⟨#[]⟩] 23 := by have h := Blk.new W2 #[.bool false, .string ⟨#[104, 116, 116, 112]⟩, .string ⟨#[97]⟩, .int .i64 0, .string ⟨#[47]⟩, .string ⟨#[]⟩] 23; exact h
  replace BS := BS.reach (Reach.alloc (Reach.refl _) (.cells #[.bool false, .string ⟨#[104, 116, 116, 112]⟩, .string ⟨#[97]⟩, .int .i64 0, .string ⟨#[47]⟩, .string ⟨#[]⟩] 23))
  replace Q := Reach.alloc Q (.cells #[.bool false, .string ⟨#[104, 116, 116, 112]⟩, .string ⟨#[97]⟩, .int .i64 0, .string ⟨#[47]⟩, .string ⟨#[]⟩] 23)
  generalize W2.alloc (.cells #[.bool false, .string ⟨#[104, 116, 116, 112]⟩, .string ⟨#[97]⟩, .int .i64 0, .string ⟨#[47]⟩, .string ⟨#[]⟩] 23) = X2 at BS BU Q ⊢
  generalize W2.heap.size = nBU at *
  (with_reducible refine Calls.mono (H3.out _ (Env.reach HE.out Q)) ?_)
  rintro e W3 ⟨rfl, hr⟩
  replace BS := BS.reach hr
  replace BU := BU.reach hr
  replace Q := Reach.trans Q hr
  clear hr
  obtain ⟨x0_0, x0_1, x0_2, x0_3, x0_4, x0_5, x0_6⟩ := BS.seven
  have xl0 := BS.lt
  obtain ⟨x1_0, x1_1, x1_2, x1_3, x1_4, x1_5⟩ := BU.six
  have xl1 := BU.lt
  go_wp2_with fail
  clear x0_0 x0_1 x0_2 x0_3 x0_4 x0_5 x0_6 xl0 x1_0 x1_1 x1_2 x1_3 x1_4 x1_5 xl1
  have BV : Blk (W3.alloc (.cells #[.bool false, .string ⟨#[104, 116, 116, 112, 115]⟩, .string ⟨#[97]⟩, .int .i64 0, .string ⟨#[47]⟩, .string ⟨#[]⟩] 23)) (W3.heap.size) #[.bool false, .string ⟨#[104, 116, 116, 112, 115]⟩, .string ⟨#[97]⟩, .int .i64 0, .string ⟨#[47]⟩, .string ⟨#[]⟩] 23 := by have h := Blk.new W3 #[.bool false, .string ⟨#[104, 116, 116, 112, 115]⟩, .string ⟨#[97]⟩, .int .i64 0, .string ⟨#[47]⟩, .string ⟨#[]⟩] 23; exact h
  replace BS := BS.reach (Reach.alloc (Reach.refl _) (.cells #[.bool false, .string ⟨#[104, 116, 116, 112, 115]⟩, .string ⟨#[97]⟩, .int .i64 0, .string ⟨#[47]⟩, .string ⟨#[]⟩] 23))
  replace BU := BU.reach (Reach.alloc (Reach.refl _) (.cells #[.bool false, .string ⟨#[104, 116, 116, 112, 115]⟩, .string ⟨#[97]⟩, .int .i64 0, .string ⟨#[47]⟩, .string ⟨#[]⟩] 23))
  replace Q := Reach.alloc Q (.cells #[.bool false, .string ⟨#[104, 116, 116, 112, 115]⟩, .string ⟨#[97]⟩, .int .i64 0, .string ⟨#[47]⟩, .string ⟨#[]⟩] 23)
  generalize W3.alloc (.cells #[.bool false, .string ⟨#[104, 116, 116, 112, 115]⟩, .string ⟨#[97]⟩, .int .i64 0, .string ⟨#[47]⟩, .string ⟨#[]⟩] 23) = X3 at BS BU BV Q ⊢
  generalize W3.heap.size = nBV at *
  obtain ⟨x0_0, x0_1, x0_2, x0_3, x0_4, x0_5, x0_6⟩ := BS.seven
  have xl0 := BS.lt
  obtain ⟨x1_0, x1_1, x1_2, x1_3, x1_4, x1_5⟩ := BU.six
  have xl1 := BU.lt
  obtain ⟨x2_0, x2_1, x2_2, x2_3, x2_4, x2_5⟩ := BV.six
  have xl2 := BV.lt
  go_wp2_with fail
  clear x0_0 x0_1 x0_2 x0_3 x0_4 x0_5 x0_6 xl0 x1_0 x1_1 x1_2 x1_3 x1_4 x1_5 xl1 x2_0 x2_1 x2_2 x2_3 x2_4 x2_5 xl2
  (with_reducible refine Calls.mono (H4.out _ (Env.reach HE.out Q)) ?_)
  rintro e W4 ⟨rfl, hr⟩
  replace Q := Reach.trans Q hr
  clear hr
  go_wp2_with fail
  go_ret
  exact ⟨rfl, Q⟩
set_option maxRecDepth 100000 in
set_option maxHeartbeats 2000000 in
theorem lets_7 (w : World) (hE : Env w) (hK : KeptIs w) : Calls Tryz.prog 52 #[.string ⟨#[100, 97, 116, 97, 58]⟩, .string ⟨#[100, 97, 116, 97, 58, 120]⟩, .string ⟨#[104, 116, 116, 112, 58, 47, 47, 97]⟩, .bool false] w fun e w' => e = .returned (.bool true) ∧ Reach w w' := by
  have h1 := fun W (hE : Env W) => sparse5_calls W hE
  have h2 : ∀ W, Env W → Calls Tryz.prog 32 #[.string ⟨#[100, 97, 116, 97, 58, 120]⟩] W fun e w' => e = .returned (.tuple #[.agg #[.bool true, .string ⟨#[100, 97, 116, 97]⟩, .string ⟨#[]⟩, .int .i64 0, .string ⟨#[120]⟩, .string ⟨#[]⟩], .int .i64 0]) ∧ Reach W w' := by
    intro W hE
    have h := parse_calls [100, 97, 116, 97, 58, 120] W (by decide) hE
    rw [show parseU [100, 97, 116, 97, 58, 120] = ⟨true, [100, 97, 116, 97], [], 0, [120], []⟩ by decide +kernel, show parseE [100, 97, 116, 97, 58, 120] = 0 by decide +kernel] at h
    exact h
  have h3 : ∀ W, Env W → Calls Tryz.prog 32 #[.string ⟨#[104, 116, 116, 112, 58, 47, 47, 97]⟩] W fun e w' => e = .returned (.tuple #[.agg #[.bool false, .string ⟨#[104, 116, 116, 112]⟩, .string ⟨#[97]⟩, .int .i64 0, .string ⟨#[47]⟩, .string ⟨#[]⟩], .int .i64 0]) ∧ Reach W w' := by
    intro W hE
    have h := parse_calls [104, 116, 116, 112, 58, 47, 47, 97] W (by decide) hE
    rw [show parseU [104, 116, 116, 112, 58, 47, 47, 97] = ⟨false, [104, 116, 116, 112], [97], 0, [47], []⟩ by decide +kernel, show parseE [104, 116, 116, 112, 58, 47, 47, 97] = 0 by decide +kernel] at h
    exact h
  have h4 := fun W (hE : Env W) => murl_calls 11 [] [100, 97, 116, 97] [] false 0 [] true [100, 97, 116, 97] [] 0 [120] [] false [104, 116, 116, 112] [97] 0 [47] [] false W (by decide) (by decide) (by decide) (by decide) (by decide) (by decide) (by decide) (by decide) (by decide) (by decide) (by decide) (by decide) (by decide) (by decide) (by decide) hE
  rw [show urlM ⟨11, [], [100, 97, 116, 97], [], false, 0, []⟩ ⟨true, [100, 97, 116, 97], [], 0, [120], []⟩ ⟨false, [104, 116, 116, 112], [97], 0, [47], []⟩ false = true by decide +kernel] at h4
  have HE := Lib.hid hE
  have HK := Lib.hid hK
  have H1 := Lib.hid h1
  have H2 := Lib.hid h2
  have H3 := Lib.hid h3
  have H4 := Lib.hid h4
  clear hE hK h1 h2 h3 h4
  go_enter Tryz.func52, Tryz.ntmps52
  have Q := Reach.refl w
  go_wp2_with fail
  (with_reducible refine Calls.mono (H1.out _ (Env.reach HE.out Q)) ?_)
  rintro e W1 ⟨rfl, hr⟩
  replace Q := Reach.trans Q hr
  clear hr
  go_wp2_with fail
  have BS : Blk (W1.alloc (.cells #[.int .i64 11, .string ⟨#[]⟩, .string ⟨#[100, 97, 116, 97]⟩, .string ⟨#[]⟩, .bool false, .int .i64 0, .string ⟨#[]⟩] 33)) (W1.heap.size) #[.int .i64 11, .string ⟨#[]⟩, .string ⟨#[100, 97, 116, 97]⟩, .string ⟨#[]⟩, .bool false, .int .i64 0, .string ⟨#[]⟩] 33 := by have h := Blk.new W1 #[.int .i64 11, .string ⟨#[]⟩, .string ⟨#[100, 97, 116, 97]⟩, .string ⟨#[]⟩, .bool false, .int .i64 0, .string ⟨#[]⟩] 33; exact h
  replace Q := Reach.alloc Q (.cells #[.int .i64 11, .string ⟨#[]⟩, .string ⟨#[100, 97, 116, 97]⟩, .string ⟨#[]⟩, .bool false, .int .i64 0, .string ⟨#[]⟩] 33)
  generalize W1.alloc (.cells #[.int .i64 11, .string ⟨#[]⟩, .string ⟨#[100, 97, 116, 97]⟩, .string ⟨#[]⟩, .bool false, .int .i64 0, .string ⟨#[]⟩] 33) = X1 at BS Q ⊢
  generalize W1.heap.size = nBS at *
  (with_reducible refine Calls.mono (H2.out _ (Env.reach HE.out Q)) ?_)
  rintro e W2 ⟨rfl, hr⟩
  replace BS := BS.reach hr
  replace Q := Reach.trans Q hr
  clear hr
  obtain ⟨x0_0, x0_1, x0_2, x0_3, x0_4, x0_5, x0_6⟩ := BS.seven
  have xl0 := BS.lt
  go_wp2_with fail
  clear x0_0 x0_1 x0_2 x0_3 x0_4 x0_5 x0_6 xl0
  have BU : Blk (W2.alloc (.cells #[.bool true, .string ⟨#[100, 97, 116, 97]⟩, .string ⟨#[]⟩, .int .i64 0, .string ⟨#[120]⟩, .string ⟨#[]⟩] 23)) (W2.heap.size) #[.bool true, .string ⟨#[100, 97, 116, 97]⟩, .string ⟨#[]⟩, .int .i64 0, .string ⟨#[120]⟩, .string ⟨#[]⟩] 23 := by have h := Blk.new W2 #[.bool true, .string ⟨#[100, 97, 116, 97]⟩, .string ⟨#[]⟩, .int .i64 0, .string ⟨#[120]⟩, .string ⟨#[]⟩] 23; exact h
  replace BS := BS.reach (Reach.alloc (Reach.refl _) (.cells #[.bool true, .string ⟨#[100, 97, 116, 97]⟩, .string ⟨#[]⟩, .int .i64 0, .string ⟨#[120]⟩, .string ⟨#[]⟩] 23))
  replace Q := Reach.alloc Q (.cells #[.bool true, .string ⟨#[100, 97, 116, 97]⟩, .string ⟨#[]⟩, .int .i64 0, .string ⟨#[120]⟩, .string ⟨#[]⟩] 23)
  generalize W2.alloc (.cells #[.bool true, .string ⟨#[100, 97, 116, 97]⟩, .string ⟨#[]⟩, .int .i64 0, .string ⟨#[120]⟩, .string ⟨#[]⟩] 23) = X2 at BS BU Q ⊢
  generalize W2.heap.size = nBU at *
  (with_reducible refine Calls.mono (H3.out _ (Env.reach HE.out Q)) ?_)
  rintro e W3 ⟨rfl, hr⟩
  replace BS := BS.reach hr
  replace BU := BU.reach hr
  replace Q := Reach.trans Q hr
  clear hr
  obtain ⟨x0_0, x0_1, x0_2, x0_3, x0_4, x0_5, x0_6⟩ := BS.seven
  have xl0 := BS.lt
  obtain ⟨x1_0, x1_1, x1_2, x1_3, x1_4, x1_5⟩ := BU.six
  have xl1 := BU.lt
  go_wp2_with fail
  clear x0_0 x0_1 x0_2 x0_3 x0_4 x0_5 x0_6 xl0 x1_0 x1_1 x1_2 x1_3 x1_4 x1_5 xl1
  have BV : Blk (W3.alloc (.cells #[.bool false, .string ⟨#[104, 116, 116, 112]⟩, .string ⟨#[97]⟩, .int .i64 0, .string ⟨#[47]⟩, .string ⟨#[]⟩] 23)) (W3.heap.size) #[.bool false, .string ⟨#[104, 116, 116, 112]⟩, .string ⟨#[97]⟩, .int .i64 0, .string ⟨#[47]⟩, .string ⟨#[]⟩] 23 := by have h := Blk.new W3 #[.bool false, .string ⟨#[104, 116, 116, 112]⟩, .string ⟨#[97]⟩, .int .i64 0, .string ⟨#[47]⟩, .string ⟨#[]⟩] 23; exact h
  replace BS := BS.reach (Reach.alloc (Reach.refl _) (.cells #[.bool false, .string ⟨#[104, 116, 116, 112]⟩, .string ⟨#[97]⟩, .int .i64 0, .string ⟨#[47]⟩, .string ⟨#[]⟩] 23))
  replace BU := BU.reach (Reach.alloc (Reach.refl _) (.cells #[.bool false, .string ⟨#[104, 116, 116, 112]⟩, .string ⟨#[97]⟩, .int .i64 0, .string ⟨#[47]⟩, .string ⟨#[]⟩] 23))
  replace Q := Reach.alloc Q (.cells #[.bool false, .string ⟨#[104, 116, 116, 112]⟩, .string ⟨#[97]⟩, .int .i64 0, .string ⟨#[47]⟩, .string ⟨#[]⟩] 23)
  generalize W3.alloc (.cells #[.bool false, .string ⟨#[104, 116, 116, 112]⟩, .string ⟨#[97]⟩, .int .i64 0, .string ⟨#[47]⟩, .string ⟨#[]⟩] 23) = X3 at BS BU BV Q ⊢
  generalize W3.heap.size = nBV at *
  obtain ⟨x0_0, x0_1, x0_2, x0_3, x0_4, x0_5, x0_6⟩ := BS.seven
  have xl0 := BS.lt
  obtain ⟨x1_0, x1_1, x1_2, x1_3, x1_4, x1_5⟩ := BU.six
  have xl1 := BU.lt
  obtain ⟨x2_0, x2_1, x2_2, x2_3, x2_4, x2_5⟩ := BV.six
  have xl2 := BV.lt
  go_wp2_with fail
  clear x0_0 x0_1 x0_2 x0_3 x0_4 x0_5 x0_6 xl0 x1_0 x1_1 x1_2 x1_3 x1_4 x1_5 xl1 x2_0 x2_1 x2_2 x2_3 x2_4 x2_5 xl2
  (with_reducible refine Calls.mono (H4.out _ (Env.reach HE.out Q)) ?_)
  rintro e W4 ⟨rfl, hr⟩
  replace Q := Reach.trans Q hr
  clear hr
  go_wp2_with fail
  go_ret
  exact ⟨rfl, Q⟩
set_option maxRecDepth 100000 in
set_option maxHeartbeats 4000000 in
theorem matches_calls (w : World) (hE : Env w) (hK : KeptIs w) : Calls Tryz.prog 18 #[] w fun e w' => e = .returned (.bool true) ∧ Reach w w' := by
  have HE := Lib.hid hE
  have HK := Lib.hid hK
  clear hE hK
  go_enter Tryz.func18, Tryz.ntmps18
  have Q := Reach.refl w
  go_wp2_with fail
  (with_reducible refine Calls.mono (lets_0 _ (Env.reach HE.out Q) (KeptIs.reach HK.out Q)) ?_)
  rintro e W0 ⟨rfl, hr⟩
  replace Q := Reach.trans Q hr
  clear hr
  go_wp2_with fail
  (with_reducible refine Calls.mono (lets_1 _ (Env.reach HE.out Q) (KeptIs.reach HK.out Q)) ?_)
  rintro e W1 ⟨rfl, hr⟩
  replace Q := Reach.trans Q hr
  clear hr
  go_wp2_with fail
  (with_reducible refine Calls.mono (lets_2 _ (Env.reach HE.out Q) (KeptIs.reach HK.out Q)) ?_)
  rintro e W2 ⟨rfl, hr⟩
  replace Q := Reach.trans Q hr
  clear hr
  go_wp2_with fail
  (with_reducible refine Calls.mono (lets_3 _ (Env.reach HE.out Q) (KeptIs.reach HK.out Q)) ?_)
  rintro e W3 ⟨rfl, hr⟩
  replace Q := Reach.trans Q hr
  clear hr
  go_wp2_with fail
  (with_reducible refine Calls.mono (lets_4 _ (Env.reach HE.out Q) (KeptIs.reach HK.out Q)) ?_)
  rintro e W4 ⟨rfl, hr⟩
  replace Q := Reach.trans Q hr
  clear hr
  go_wp2_with fail
  (with_reducible refine Calls.mono (lets_5 _ (Env.reach HE.out Q) (KeptIs.reach HK.out Q)) ?_)
  rintro e W5 ⟨rfl, hr⟩
  replace Q := Reach.trans Q hr
  clear hr
  go_wp2_with fail
  (with_reducible refine Calls.mono (lets_6 _ (Env.reach HE.out Q) (KeptIs.reach HK.out Q)) ?_)
  rintro e W6 ⟨rfl, hr⟩
  replace Q := Reach.trans Q hr
  clear hr
  go_wp2_with fail
  (with_reducible refine Calls.mono (lets_7 _ (Env.reach HE.out Q) (KeptIs.reach HK.out Q)) ?_)
  rintro e W7 ⟨rfl, hr⟩
  replace Q := Reach.trans Q hr
  clear hr
  go_wp2_with fail
  go_ret
  exact ⟨rfl, Q⟩
end Go.Proofs.YtbeaheicjopooaaGreatDoor
