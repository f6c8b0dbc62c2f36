/- What the reference answers of a source and an address; texts of at most a million bytes. -/
import Derived.Test.YtbeaheicjopooaaGreatDoorProg
import Derived.Test.YtbeaheicjopooaaGreatDoorRef10
import Derived.Test.YtbeaheicjopooaaGreatDoorMatchV
namespace Go.Proofs.YtbeaheicjopooaaGreatDoor
open Go.RowKit Go.Sort
attribute [local go_sem] get_mk mk_append mk_extract0 mk_extract_end mk_extract_cons empty_mk cell_grow frozen_grow size_grow
def selfB (u own : URL) : Bool := orgSame (orgOf u) (orgOf own) || (checkB own && !u.opq && !own.opq && u.host == own.host && u.port == 0 && own.port == 0 && schM own.sch u.sch)
set_option maxRecDepth 100000 in
set_option maxHeartbeats 4000000 in
theorem rself_calls (u0 : Bool) (u1 u2 : List UInt8) (u3 : Int) (u4 u5 : List UInt8) (v0 : Bool) (v1 v2 : List UInt8) (v3 : Int) (v4 v5 : List UInt8) (w : World) (a1u : -9223372036854775808 ≤ u3) (a2u : u3 ≤ 9223372036854775807) (b1u : u1.length ≤ 1000000) (b2u : u2.length ≤ 1000000) (b4u : u4.length ≤ 1000000) (b5u : u5.length ≤ 1000000) (a1v : -9223372036854775808 ≤ v3) (a2v : v3 ≤ 9223372036854775807) (b1v : v1.length ≤ 1000000) (b2v : v2.length ≤ 1000000) (b4v : v4.length ≤ 1000000) (b5v : v5.length ≤ 1000000) :
    Calls Tryz.prog 69 #[.agg #[.bool u0, .string ⟨u1.toArray⟩, .string ⟨u2.toArray⟩, .int .i64 u3, .string ⟨u4.toArray⟩, .string ⟨u5.toArray⟩], .agg #[.bool v0, .string ⟨v1.toArray⟩, .string ⟨v2.toArray⟩, .int .i64 v3, .string ⟨v4.toArray⟩, .string ⟨v5.toArray⟩]] w fun e w' => e = .returned (.bool (selfB ⟨u0, u1, u2, u3, u4, u5⟩ ⟨v0, v1, v2, v3, v4, v5⟩)) ∧ Reach w w' := by
  have hoa := fun W => rof_calls u0 u1 u2 u3 u4 u5 W a1u a2u b1u b2u b4u b5u
  have hob := fun W => rof_calls v0 v1 v2 v3 v4 v5 W a1v a2v b1v b2v b4v b5v
  have hsm := fun W => rsame_calls (orgOf ⟨u0, u1, u2, u3, u4, u5⟩) (orgOf ⟨v0, v1, v2, v3, v4, v5⟩) W
  have hx := fun W => rright_calls v0 v1 v2 v3 v4 v5 W a1v a2v b1v b2v b4v b5v
  unfold selfB
  generalize orgOf ⟨u0, u1, u2, u3, u4, u5⟩ = xo at *
  generalize orgOf ⟨v0, v1, v2, v3, v4, v5⟩ = yo at *
  generalize checkB ⟨v0, v1, v2, v3, v4, v5⟩ = cb at *
  simp only
  have HOA := Lib.hid hoa
  have HOB := Lib.hid hob
  clear hoa hob
  cases hsb : orgSame xo yo
  rotate_left
  · rw [hsb] at hsm
    have HSM := Lib.hid hsm
    clear hsm hsb hx
    go_enter Tryz.func69, Tryz.ntmps69
    go_wp2_with (first | (go_at_call 99; (with_reducible refine Calls.mono (HOA.out _) ?_); rintro e w' ⟨rfl, hb⟩; obtain ⟨hc, hf, hz⟩ := Reach.facts hb) | (go_at_call 99; (with_reducible refine Calls.mono (HOB.out _) ?_); rintro e w' ⟨rfl, hb⟩; obtain ⟨hc, hf, hz⟩ := Reach.facts hb) | (go_at_call 98; (with_reducible refine Calls.mono (HSM.out _) ?_); rintro e w' ⟨rfl, hb⟩; obtain ⟨hc, hf, hz⟩ := Reach.facts hb) | ((with_reducible refine wp_region_quiet_below (by kernel_rfl) (by kernel_rfl) ?_); (repeat (any_goals (first | (go_big_quiet_step ((first | (go_at_call 99; with_reducible exact reg_reach (HOA.out _)) | (go_at_call 99; with_reducible exact reg_reach (HOB.out _)) | (go_at_call 98; with_reducible exact reg_reach (HSM.out _))))) | (quiet_step ((first | (go_at_call 99; with_reducible exact reg_reach (HOA.out _)) | (go_at_call 99; with_reducible exact reg_reach (HOB.out _)) | (go_at_call 98; with_reducible exact reg_reach (HSM.out _))))) | (refine wpQuiet_step (fun K hK => ?_); go_simp; split <;> (refine hK _ ?_; clear hK K))))); all_goals (refine wpQuiet_nil ?_; intro _ hw'; obtain ⟨⟨dq, osq⟩, hw''⟩ := hw'; subst hw'')))
    go_ret
    exact ⟨ret_bool (by simp), by (repeat (first | (with_reducible assumption) | (with_reducible exact Reach.refl _) | (with_reducible refine Reach.alloc ?_ _) | (with_reducible refine Reach.drew ?_) | (with_reducible refine Reach.drewN ?_ _) | (with_reducible refine Reach.grow ?_ _ _) | (with_reducible refine Reach.setCell ?_ ?_ _) | (with_reducible refine Reach.trans ?_ (by with_reducible assumption)) | (show _ ≤ Addr.block _; first | (exact Nat.le_refl _) | (show (_ : Nat) ≤ _; omega)) | (simp; done) | (simp; omega)))⟩
  rw [hsb] at hsm
  have HSM := Lib.hid hsm
  clear hsm hsb
  cases cb
  · have HX := Lib.hid hx
    clear hx
    go_enter Tryz.func69, Tryz.ntmps69
    go_wp2_with fail
    have BU : Blk (w.alloc (.cells #[.bool u0, .string ⟨u1.toArray⟩, .string ⟨u2.toArray⟩, .int .i64 u3, .string ⟨u4.toArray⟩, .string ⟨u5.toArray⟩] 23)) (w.heap.size) #[.bool u0, .string ⟨u1.toArray⟩, .string ⟨u2.toArray⟩, .int .i64 u3, .string ⟨u4.toArray⟩, .string ⟨u5.toArray⟩] 23 := by have h := Blk.new w #[.bool u0, .string ⟨u1.toArray⟩, .string ⟨u2.toArray⟩, .int .i64 u3, .string ⟨u4.toArray⟩, .string ⟨u5.toArray⟩] 23; exact h
    have BO : Blk ((w.alloc (.cells #[.bool u0, .string ⟨u1.toArray⟩, .string ⟨u2.toArray⟩, .int .i64 u3, .string ⟨u4.toArray⟩, .string ⟨u5.toArray⟩] 23)).alloc (.cells #[.bool v0, .string ⟨v1.toArray⟩, .string ⟨v2.toArray⟩, .int .i64 v3, .string ⟨v4.toArray⟩, .string ⟨v5.toArray⟩] 23)) (w.heap.size + 1) #[.bool v0, .string ⟨v1.toArray⟩, .string ⟨v2.toArray⟩, .int .i64 v3, .string ⟨v4.toArray⟩, .string ⟨v5.toArray⟩] 23 := by have h := Blk.new (w.alloc (.cells #[.bool u0, .string ⟨u1.toArray⟩, .string ⟨u2.toArray⟩, .int .i64 u3, .string ⟨u4.toArray⟩, .string ⟨u5.toArray⟩] 23)) #[.bool v0, .string ⟨v1.toArray⟩, .string ⟨v2.toArray⟩, .int .i64 v3, .string ⟨v4.toArray⟩, .string ⟨v5.toArray⟩] 23; rw [World.size_alloc] at h; exact h
    replace BU := BU.reach (Reach.alloc (Reach.refl _) (.cells #[.bool v0, .string ⟨v1.toArray⟩, .string ⟨v2.toArray⟩, .int .i64 v3, .string ⟨v4.toArray⟩, .string ⟨v5.toArray⟩] 23))
    have Q : Reach w _ := Reach.alloc (Reach.alloc (Reach.refl w) (.cells #[.bool u0, .string ⟨u1.toArray⟩, .string ⟨u2.toArray⟩, .int .i64 u3, .string ⟨u4.toArray⟩, .string ⟨u5.toArray⟩] 23)) (.cells #[.bool v0, .string ⟨v1.toArray⟩, .string ⟨v2.toArray⟩, .int .i64 v3, .string ⟨v4.toArray⟩, .string ⟨v5.toArray⟩] 23)
    generalize (w.alloc (.cells #[.bool u0, .string ⟨u1.toArray⟩, .string ⟨u2.toArray⟩, .int .i64 u3, .string ⟨u4.toArray⟩, .string ⟨u5.toArray⟩] 23)).alloc (.cells #[.bool v0, .string ⟨v1.toArray⟩, .string ⟨v2.toArray⟩, .int .i64 v3, .string ⟨v4.toArray⟩, .string ⟨v5.toArray⟩] 23) = W0 at BU BO Q ⊢
    obtain ⟨x0_0, x0_1, x0_2, x0_3, x0_4, x0_5⟩ := BU.six
    have xl0 := BU.lt
    obtain ⟨x1_0, x1_1, x1_2, x1_3, x1_4, x1_5⟩ := BO.six
    have xl1 := BO.lt
    go_wp2_with (first | (go_at_call 99; (with_reducible refine Calls.mono (HOA.out _) ?_); rintro e w' ⟨rfl, hb⟩; obtain ⟨hc, hf, hz⟩ := Reach.facts hb) | (go_at_call 99; (with_reducible refine Calls.mono (HOB.out _) ?_); rintro e w' ⟨rfl, hb⟩; obtain ⟨hc, hf, hz⟩ := Reach.facts hb) | (go_at_call 98; (with_reducible refine Calls.mono (HSM.out _) ?_); rintro e w' ⟨rfl, hb⟩; obtain ⟨hc, hf, hz⟩ := Reach.facts hb) | ((with_reducible refine wp_region_quiet_below (by kernel_rfl) (by kernel_rfl) ?_); (repeat (any_goals (first | (go_big_quiet_step ((first | (go_at_call 99; with_reducible exact reg_reach (HOA.out _)) | (go_at_call 99; with_reducible exact reg_reach (HOB.out _)) | (go_at_call 98; with_reducible exact reg_reach (HSM.out _))))) | (quiet_step ((first | (go_at_call 99; with_reducible exact reg_reach (HOA.out _)) | (go_at_call 99; with_reducible exact reg_reach (HOB.out _)) | (go_at_call 98; with_reducible exact reg_reach (HSM.out _))))) | (refine wpQuiet_step (fun K hK => ?_); go_simp; split <;> (refine hK _ ?_; clear hK K))))); all_goals (refine wpQuiet_nil ?_; intro _ hw'; obtain ⟨⟨dq, osq⟩, hw''⟩ := hw'; subst hw'')))
    replace BU := BU.reach (Reach.grow (Reach.refl W0) dq osq)
    replace BO := BO.reach (Reach.grow (Reach.refl W0) dq osq)
    replace Q := Reach.grow Q dq osq
    clear x0_0 x0_1 x0_2 x0_3 x0_4 x0_5 xl0 x1_0 x1_1 x1_2 x1_3 x1_4 x1_5 xl1
    generalize grow (redrawn W0 dq) osq = W1 at BU BO Q ⊢
    (with_reducible refine Calls.mono (HX.out _) ?_)
    rintro e W2 ⟨rfl, hr⟩
    replace BU := BU.reach hr
    replace BO := BO.reach hr
    replace Q := Reach.trans Q hr
    clear hr
    obtain ⟨x0_0, x0_1, x0_2, x0_3, x0_4, x0_5⟩ := BU.six
    have xl0 := BU.lt
    obtain ⟨x1_0, x1_1, x1_2, x1_3, x1_4, x1_5⟩ := BO.six
    have xl1 := BO.lt
    go_wp2_with (first | (go_at_call 20; (with_reducible refine Calls.mono (rscheme10_calls _ _ _) ?_); rintro e w' ⟨rfl, rfl⟩))
    clear x0_0 x0_1 x0_2 x0_3 x0_4 x0_5 xl0 x1_0 x1_1 x1_2 x1_3 x1_4 x1_5 xl1
    go_ret
    exact ⟨ret_bool (by simp), Q⟩
  have HX := Lib.hid hx
  clear hx
  cases u0
  rotate_left
  · go_enter Tryz.func69, Tryz.ntmps69
    go_wp2_with fail
    have BU : Blk (w.alloc (.cells #[.bool true, .string ⟨u1.toArray⟩, .string ⟨u2.toArray⟩, .int .i64 u3, .string ⟨u4.toArray⟩, .string ⟨u5.toArray⟩] 23)) (w.heap.size) #[.bool true, .string ⟨u1.toArray⟩, .string ⟨u2.toArray⟩, .int .i64 u3, .string ⟨u4.toArray⟩, .string ⟨u5.toArray⟩] 23 := by have h := Blk.new w #[.bool true, .string ⟨u1.toArray⟩, .string ⟨u2.toArray⟩, .int .i64 u3, .string ⟨u4.toArray⟩, .string ⟨u5.toArray⟩] 23; exact h
    have BO : Blk ((w.alloc (.cells #[.bool true, .string ⟨u1.toArray⟩, .string ⟨u2.toArray⟩, .int .i64 u3, .string ⟨u4.toArray⟩, .string ⟨u5.toArray⟩] 23)).alloc (.cells #[.bool v0, .string ⟨v1.toArray⟩, .string ⟨v2.toArray⟩, .int .i64 v3, .string ⟨v4.toArray⟩, .string ⟨v5.toArray⟩] 23)) (w.heap.size + 1) #[.bool v0, .string ⟨v1.toArray⟩, .string ⟨v2.toArray⟩, .int .i64 v3, .string ⟨v4.toArray⟩, .string ⟨v5.toArray⟩] 23 := by have h := Blk.new (w.alloc (.cells #[.bool true, .string ⟨u1.toArray⟩, .string ⟨u2.toArray⟩, .int .i64 u3, .string ⟨u4.toArray⟩, .string ⟨u5.toArray⟩] 23)) #[.bool v0, .string ⟨v1.toArray⟩, .string ⟨v2.toArray⟩, .int .i64 v3, .string ⟨v4.toArray⟩, .string ⟨v5.toArray⟩] 23; rw [World.size_alloc] at h; exact h
    replace BU := BU.reach (Reach.alloc (Reach.refl _) (.cells #[.bool v0, .string ⟨v1.toArray⟩, .string ⟨v2.toArray⟩, .int .i64 v3, .string ⟨v4.toArray⟩, .string ⟨v5.toArray⟩] 23))
    have Q : Reach w _ := Reach.alloc (Reach.alloc (Reach.refl w) (.cells #[.bool true, .string ⟨u1.toArray⟩, .string ⟨u2.toArray⟩, .int .i64 u3, .string ⟨u4.toArray⟩, .string ⟨u5.toArray⟩] 23)) (.cells #[.bool v0, .string ⟨v1.toArray⟩, .string ⟨v2.toArray⟩, .int .i64 v3, .string ⟨v4.toArray⟩, .string ⟨v5.toArray⟩] 23)
    generalize (w.alloc (.cells #[.bool true, .string ⟨u1.toArray⟩, .string ⟨u2.toArray⟩, .int .i64 u3, .string ⟨u4.toArray⟩, .string ⟨u5.toArray⟩] 23)).alloc (.cells #[.bool v0, .string ⟨v1.toArray⟩, .string ⟨v2.toArray⟩, .int .i64 v3, .string ⟨v4.toArray⟩, .string ⟨v5.toArray⟩] 23) = W0 at BU BO Q ⊢
    obtain ⟨x0_0, x0_1, x0_2, x0_3, x0_4, x0_5⟩ := BU.six
    have xl0 := BU.lt
    obtain ⟨x1_0, x1_1, x1_2, x1_3, x1_4, x1_5⟩ := BO.six
    have xl1 := BO.lt
    go_wp2_with (first | (go_at_call 99; (with_reducible refine Calls.mono (HOA.out _) ?_); rintro e w' ⟨rfl, hb⟩; obtain ⟨hc, hf, hz⟩ := Reach.facts hb) | (go_at_call 99; (with_reducible refine Calls.mono (HOB.out _) ?_); rintro e w' ⟨rfl, hb⟩; obtain ⟨hc, hf, hz⟩ := Reach.facts hb) | (go_at_call 98; (with_reducible refine Calls.mono (HSM.out _) ?_); rintro e w' ⟨rfl, hb⟩; obtain ⟨hc, hf, hz⟩ := Reach.facts hb) | ((with_reducible refine wp_region_quiet_below (by kernel_rfl) (by kernel_rfl) ?_); (repeat (any_goals (first | (go_big_quiet_step ((first | (go_at_call 99; with_reducible exact reg_reach (HOA.out _)) | (go_at_call 99; with_reducible exact reg_reach (HOB.out _)) | (go_at_call 98; with_reducible exact reg_reach (HSM.out _))))) | (quiet_step ((first | (go_at_call 99; with_reducible exact reg_reach (HOA.out _)) | (go_at_call 99; with_reducible exact reg_reach (HOB.out _)) | (go_at_call 98; with_reducible exact reg_reach (HSM.out _))))) | (refine wpQuiet_step (fun K hK => ?_); go_simp; split <;> (refine hK _ ?_; clear hK K))))); all_goals (refine wpQuiet_nil ?_; intro _ hw'; obtain ⟨⟨dq, osq⟩, hw''⟩ := hw'; subst hw'')))
    replace BU := BU.reach (Reach.grow (Reach.refl W0) dq osq)
    replace BO := BO.reach (Reach.grow (Reach.refl W0) dq osq)
    replace Q := Reach.grow Q dq osq
    clear x0_0 x0_1 x0_2 x0_3 x0_4 x0_5 xl0 x1_0 x1_1 x1_2 x1_3 x1_4 x1_5 xl1
    generalize grow (redrawn W0 dq) osq = W1 at BU BO Q ⊢
    (with_reducible refine Calls.mono (HX.out _) ?_)
    rintro e W2 ⟨rfl, hr⟩
    replace BU := BU.reach hr
    replace BO := BO.reach hr
    replace Q := Reach.trans Q hr
    clear hr
    obtain ⟨x0_0, x0_1, x0_2, x0_3, x0_4, x0_5⟩ := BU.six
    have xl0 := BU.lt
    obtain ⟨x1_0, x1_1, x1_2, x1_3, x1_4, x1_5⟩ := BO.six
    have xl1 := BO.lt
    go_wp2_with (first | (go_at_call 20; (with_reducible refine Calls.mono (rscheme10_calls _ _ _) ?_); rintro e w' ⟨rfl, rfl⟩))
    clear x0_0 x0_1 x0_2 x0_3 x0_4 x0_5 xl0 x1_0 x1_1 x1_2 x1_3 x1_4 x1_5 xl1
    go_ret
    exact ⟨ret_bool (by simp), Q⟩
  cases v0
  rotate_left
  · go_enter Tryz.func69, Tryz.ntmps69
    go_wp2_with fail
    have BU : Blk (w.alloc (.cells #[.bool false, .string ⟨u1.toArray⟩, .string ⟨u2.toArray⟩, .int .i64 u3, .string ⟨u4.toArray⟩, .string ⟨u5.toArray⟩] 23)) (w.heap.size) #[.bool false, .string ⟨u1.toArray⟩, .string ⟨u2.toArray⟩, .int .i64 u3, .string ⟨u4.toArray⟩, .string ⟨u5.toArray⟩] 23 := by have h := Blk.new w #[.bool false, .string ⟨u1.toArray⟩, .string ⟨u2.toArray⟩, .int .i64 u3, .string ⟨u4.toArray⟩, .string ⟨u5.toArray⟩] 23; exact h
    have BO : Blk ((w.alloc (.cells #[.bool false, .string ⟨u1.toArray⟩, .string ⟨u2.toArray⟩, .int .i64 u3, .string ⟨u4.toArray⟩, .string ⟨u5.toArray⟩] 23)).alloc (.cells #[.bool true, .string ⟨v1.toArray⟩, .string ⟨v2.toArray⟩, .int .i64 v3, .string ⟨v4.toArray⟩, .string ⟨v5.toArray⟩] 23)) (w.heap.size + 1) #[.bool true, .string ⟨v1.toArray⟩, .string ⟨v2.toArray⟩, .int .i64 v3, .string ⟨v4.toArray⟩, .string ⟨v5.toArray⟩] 23 := by have h := Blk.new (w.alloc (.cells #[.bool false, .string ⟨u1.toArray⟩, .string ⟨u2.toArray⟩, .int .i64 u3, .string ⟨u4.toArray⟩, .string ⟨u5.toArray⟩] 23)) #[.bool true, .string ⟨v1.toArray⟩, .string ⟨v2.toArray⟩, .int .i64 v3, .string ⟨v4.toArray⟩, .string ⟨v5.toArray⟩] 23; rw [World.size_alloc] at h; exact h
    replace BU := BU.reach (Reach.alloc (Reach.refl _) (.cells #[.bool true, .string ⟨v1.toArray⟩, .string ⟨v2.toArray⟩, .int .i64 v3, .string ⟨v4.toArray⟩, .string ⟨v5.toArray⟩] 23))
    have Q : Reach w _ := Reach.alloc (Reach.alloc (Reach.refl w) (.cells #[.bool false, .string ⟨u1.toArray⟩, .string ⟨u2.toArray⟩, .int .i64 u3, .string ⟨u4.toArray⟩, .string ⟨u5.toArray⟩] 23)) (.cells #[.bool true, .string ⟨v1.toArray⟩, .string ⟨v2.toArray⟩, .int .i64 v3, .string ⟨v4.toArray⟩, .string ⟨v5.toArray⟩] 23)
    generalize (w.alloc (.cells #[.bool false, .string ⟨u1.toArray⟩, .string ⟨u2.toArray⟩, .int .i64 u3, .string ⟨u4.toArray⟩, .string ⟨u5.toArray⟩] 23)).alloc (.cells #[.bool true, .string ⟨v1.toArray⟩, .string ⟨v2.toArray⟩, .int .i64 v3, .string ⟨v4.toArray⟩, .string ⟨v5.toArray⟩] 23) = W0 at BU BO Q ⊢
    obtain ⟨x0_0, x0_1, x0_2, x0_3, x0_4, x0_5⟩ := BU.six
    have xl0 := BU.lt
    obtain ⟨x1_0, x1_1, x1_2, x1_3, x1_4, x1_5⟩ := BO.six
    have xl1 := BO.lt
    go_wp2_with (first | (go_at_call 99; (with_reducible refine Calls.mono (HOA.out _) ?_); rintro e w' ⟨rfl, hb⟩; obtain ⟨hc, hf, hz⟩ := Reach.facts hb) | (go_at_call 99; (with_reducible refine Calls.mono (HOB.out _) ?_); rintro e w' ⟨rfl, hb⟩; obtain ⟨hc, hf, hz⟩ := Reach.facts hb) | (go_at_call 98; (with_reducible refine Calls.mono (HSM.out _) ?_); rintro e w' ⟨rfl, hb⟩; obtain ⟨hc, hf, hz⟩ := Reach.facts hb) | ((with_reducible refine wp_region_quiet_below (by kernel_rfl) (by kernel_rfl) ?_); (repeat (any_goals (first | (go_big_quiet_step ((first | (go_at_call 99; with_reducible exact reg_reach (HOA.out _)) | (go_at_call 99; with_reducible exact reg_reach (HOB.out _)) | (go_at_call 98; with_reducible exact reg_reach (HSM.out _))))) | (quiet_step ((first | (go_at_call 99; with_reducible exact reg_reach (HOA.out _)) | (go_at_call 99; with_reducible exact reg_reach (HOB.out _)) | (go_at_call 98; with_reducible exact reg_reach (HSM.out _))))) | (refine wpQuiet_step (fun K hK => ?_); go_simp; split <;> (refine hK _ ?_; clear hK K))))); all_goals (refine wpQuiet_nil ?_; intro _ hw'; obtain ⟨⟨dq, osq⟩, hw''⟩ := hw'; subst hw'')))
    replace BU := BU.reach (Reach.grow (Reach.refl W0) dq osq)
    replace BO := BO.reach (Reach.grow (Reach.refl W0) dq osq)
    replace Q := Reach.grow Q dq osq
    clear x0_0 x0_1 x0_2 x0_3 x0_4 x0_5 xl0 x1_0 x1_1 x1_2 x1_3 x1_4 x1_5 xl1
    generalize grow (redrawn W0 dq) osq = W1 at BU BO Q ⊢
    (with_reducible refine Calls.mono (HX.out _) ?_)
    rintro e W2 ⟨rfl, hr⟩
    replace BU := BU.reach hr
    replace BO := BO.reach hr
    replace Q := Reach.trans Q hr
    clear hr
    obtain ⟨x0_0, x0_1, x0_2, x0_3, x0_4, x0_5⟩ := BU.six
    have xl0 := BU.lt
    obtain ⟨x1_0, x1_1, x1_2, x1_3, x1_4, x1_5⟩ := BO.six
    have xl1 := BO.lt
    go_wp2_with (first | (go_at_call 20; (with_reducible refine Calls.mono (rscheme10_calls _ _ _) ?_); rintro e w' ⟨rfl, rfl⟩))
    clear x0_0 x0_1 x0_2 x0_3 x0_4 x0_5 xl0 x1_0 x1_1 x1_2 x1_3 x1_4 x1_5 xl1
    go_ret
    exact ⟨ret_bool (by simp), Q⟩
  cases hh : (u2 == v2)
  · go_enter Tryz.func69, Tryz.ntmps69
    go_wp2_with fail
    have BU : Blk (w.alloc (.cells #[.bool false, .string ⟨u1.toArray⟩, .string ⟨u2.toArray⟩, .int .i64 u3, .string ⟨u4.toArray⟩, .string ⟨u5.toArray⟩] 23)) (w.heap.size) #[.bool false, .string ⟨u1.toArray⟩, .string ⟨u2.toArray⟩, .int .i64 u3, .string ⟨u4.toArray⟩, .string ⟨u5.toArray⟩] 23 := by have h := Blk.new w #[.bool false, .string ⟨u1.toArray⟩, .string ⟨u2.toArray⟩, .int .i64 u3, .string ⟨u4.toArray⟩, .string ⟨u5.toArray⟩] 23; exact h
    have BO : Blk ((w.alloc (.cells #[.bool false, .string ⟨u1.toArray⟩, .string ⟨u2.toArray⟩, .int .i64 u3, .string ⟨u4.toArray⟩, .string ⟨u5.toArray⟩] 23)).alloc (.cells #[.bool false, .string ⟨v1.toArray⟩, .string ⟨v2.toArray⟩, .int .i64 v3, .string ⟨v4.toArray⟩, .string ⟨v5.toArray⟩] 23)) (w.heap.size + 1) #[.bool false, .string ⟨v1.toArray⟩, .string ⟨v2.toArray⟩, .int .i64 v3, .string ⟨v4.toArray⟩, .string ⟨v5.toArray⟩] 23 := by have h := Blk.new (w.alloc (.cells #[.bool false, .string ⟨u1.toArray⟩, .string ⟨u2.toArray⟩, .int .i64 u3, .string ⟨u4.toArray⟩, .string ⟨u5.toArray⟩] 23)) #[.bool false, .string ⟨v1.toArray⟩, .string ⟨v2.toArray⟩, .int .i64 v3, .string ⟨v4.toArray⟩, .string ⟨v5.toArray⟩] 23; rw [World.size_alloc] at h; exact h
    replace BU := BU.reach (Reach.alloc (Reach.refl _) (.cells #[.bool false, .string ⟨v1.toArray⟩, .string ⟨v2.toArray⟩, .int .i64 v3, .string ⟨v4.toArray⟩, .string ⟨v5.toArray⟩] 23))
    have Q : Reach w _ := Reach.alloc (Reach.alloc (Reach.refl w) (.cells #[.bool false, .string ⟨u1.toArray⟩, .string ⟨u2.toArray⟩, .int .i64 u3, .string ⟨u4.toArray⟩, .string ⟨u5.toArray⟩] 23)) (.cells #[.bool false, .string ⟨v1.toArray⟩, .string ⟨v2.toArray⟩, .int .i64 v3, .string ⟨v4.toArray⟩, .string ⟨v5.toArray⟩] 23)
    generalize (w.alloc (.cells #[.bool false, .string ⟨u1.toArray⟩, .string ⟨u2.toArray⟩, .int .i64 u3, .string ⟨u4.toArray⟩, .string ⟨u5.toArray⟩] 23)).alloc (.cells #[.bool false, .string ⟨v1.toArray⟩, .string ⟨v2.toArray⟩, .int .i64 v3, .string ⟨v4.toArray⟩, .string ⟨v5.toArray⟩] 23) = W0 at BU BO Q ⊢
    obtain ⟨x0_0, x0_1, x0_2, x0_3, x0_4, x0_5⟩ := BU.six
    have xl0 := BU.lt
    obtain ⟨x1_0, x1_1, x1_2, x1_3, x1_4, x1_5⟩ := BO.six
    have xl1 := BO.lt
    go_wp2_with (first | (go_at_call 99; (with_reducible refine Calls.mono (HOA.out _) ?_); rintro e w' ⟨rfl, hb⟩; obtain ⟨hc, hf, hz⟩ := Reach.facts hb) | (go_at_call 99; (with_reducible refine Calls.mono (HOB.out _) ?_); rintro e w' ⟨rfl, hb⟩; obtain ⟨hc, hf, hz⟩ := Reach.facts hb) | (go_at_call 98; (with_reducible refine Calls.mono (HSM.out _) ?_); rintro e w' ⟨rfl, hb⟩; obtain ⟨hc, hf, hz⟩ := Reach.facts hb) | ((with_reducible refine wp_region_quiet_below (by kernel_rfl) (by kernel_rfl) ?_); (repeat (any_goals (first | (go_big_quiet_step ((first | (go_at_call 99; with_reducible exact reg_reach (HOA.out _)) | (go_at_call 99; with_reducible exact reg_reach (HOB.out _)) | (go_at_call 98; with_reducible exact reg_reach (HSM.out _))))) | (quiet_step ((first | (go_at_call 99; with_reducible exact reg_reach (HOA.out _)) | (go_at_call 99; with_reducible exact reg_reach (HOB.out _)) | (go_at_call 98; with_reducible exact reg_reach (HSM.out _))))) | (refine wpQuiet_step (fun K hK => ?_); go_simp; split <;> (refine hK _ ?_; clear hK K))))); all_goals (refine wpQuiet_nil ?_; intro _ hw'; obtain ⟨⟨dq, osq⟩, hw''⟩ := hw'; subst hw'')))
    replace BU := BU.reach (Reach.grow (Reach.refl W0) dq osq)
    replace BO := BO.reach (Reach.grow (Reach.refl W0) dq osq)
    replace Q := Reach.grow Q dq osq
    clear x0_0 x0_1 x0_2 x0_3 x0_4 x0_5 xl0 x1_0 x1_1 x1_2 x1_3 x1_4 x1_5 xl1
    generalize grow (redrawn W0 dq) osq = W1 at BU BO Q ⊢
    (with_reducible refine Calls.mono (HX.out _) ?_)
    rintro e W2 ⟨rfl, hr⟩
    replace BU := BU.reach hr
    replace BO := BO.reach hr
    replace Q := Reach.trans Q hr
    clear hr
    obtain ⟨x0_0, x0_1, x0_2, x0_3, x0_4, x0_5⟩ := BU.six
    have xl0 := BU.lt
    obtain ⟨x1_0, x1_1, x1_2, x1_3, x1_4, x1_5⟩ := BO.six
    have xl1 := BO.lt
    go_wp2_with (first | (go_at_call 20; (with_reducible refine Calls.mono (rscheme10_calls _ _ _) ?_); rintro e w' ⟨rfl, rfl⟩))
    clear x0_0 x0_1 x0_2 x0_3 x0_4 x0_5 xl0 x1_0 x1_1 x1_2 x1_3 x1_4 x1_5 xl1
    go_ret
    exact ⟨ret_bool (by simp), Q⟩
  cases hu : (u3 == 0)
  · go_enter Tryz.func69, Tryz.ntmps69
    go_wp2_with fail
    have BU : Blk (w.alloc (.cells #[.bool false, .string ⟨u1.toArray⟩, .string ⟨u2.toArray⟩, .int .i64 u3, .string ⟨u4.toArray⟩, .string ⟨u5.toArray⟩] 23)) (w.heap.size) #[.bool false, .string ⟨u1.toArray⟩, .string ⟨u2.toArray⟩, .int .i64 u3, .string ⟨u4.toArray⟩, .string ⟨u5.toArray⟩] 23 := by have h := Blk.new w #[.bool false, .string ⟨u1.toArray⟩, .string ⟨u2.toArray⟩, .int .i64 u3, .string ⟨u4.toArray⟩, .string ⟨u5.toArray⟩] 23; exact h
    have BO : Blk ((w.alloc (.cells #[.bool false, .string ⟨u1.toArray⟩, .string ⟨u2.toArray⟩, .int .i64 u3, .string ⟨u4.toArray⟩, .string ⟨u5.toArray⟩] 23)).alloc (.cells #[.bool false, .string ⟨v1.toArray⟩, .string ⟨v2.toArray⟩, .int .i64 v3, .string ⟨v4.toArray⟩, .string ⟨v5.toArray⟩] 23)) (w.heap.size + 1) #[.bool false, .string ⟨v1.toArray⟩, .string ⟨v2.toArray⟩, .int .i64 v3, .string ⟨v4.toArray⟩, .string ⟨v5.toArray⟩] 23 := by have h := Blk.new (w.alloc (.cells #[.bool false, .string ⟨u1.toArray⟩, .string ⟨u2.toArray⟩, .int .i64 u3, .string ⟨u4.toArray⟩, .string ⟨u5.toArray⟩] 23)) #[.bool false, .string ⟨v1.toArray⟩, .string ⟨v2.toArray⟩, .int .i64 v3, .string ⟨v4.toArray⟩, .string ⟨v5.toArray⟩] 23; rw [World.size_alloc] at h; exact h
    replace BU := BU.reach (Reach.alloc (Reach.refl _) (.cells #[.bool false, .string ⟨v1.toArray⟩, .string ⟨v2.toArray⟩, .int .i64 v3, .string ⟨v4.toArray⟩, .string ⟨v5.toArray⟩] 23))
    have Q : Reach w _ := Reach.alloc (Reach.alloc (Reach.refl w) (.cells #[.bool false, .string ⟨u1.toArray⟩, .string ⟨u2.toArray⟩, .int .i64 u3, .string ⟨u4.toArray⟩, .string ⟨u5.toArray⟩] 23)) (.cells #[.bool false, .string ⟨v1.toArray⟩, .string ⟨v2.toArray⟩, .int .i64 v3, .string ⟨v4.toArray⟩, .string ⟨v5.toArray⟩] 23)
    generalize (w.alloc (.cells #[.bool false, .string ⟨u1.toArray⟩, .string ⟨u2.toArray⟩, .int .i64 u3, .string ⟨u4.toArray⟩, .string ⟨u5.toArray⟩] 23)).alloc (.cells #[.bool false, .string ⟨v1.toArray⟩, .string ⟨v2.toArray⟩, .int .i64 v3, .string ⟨v4.toArray⟩, .string ⟨v5.toArray⟩] 23) = W0 at BU BO Q ⊢
    obtain ⟨x0_0, x0_1, x0_2, x0_3, x0_4, x0_5⟩ := BU.six
    have xl0 := BU.lt
    obtain ⟨x1_0, x1_1, x1_2, x1_3, x1_4, x1_5⟩ := BO.six
    have xl1 := BO.lt
    go_wp2_with (first | (go_at_call 99; (with_reducible refine Calls.mono (HOA.out _) ?_); rintro e w' ⟨rfl, hb⟩; obtain ⟨hc, hf, hz⟩ := Reach.facts hb) | (go_at_call 99; (with_reducible refine Calls.mono (HOB.out _) ?_); rintro e w' ⟨rfl, hb⟩; obtain ⟨hc, hf, hz⟩ := Reach.facts hb) | (go_at_call 98; (with_reducible refine Calls.mono (HSM.out _) ?_); rintro e w' ⟨rfl, hb⟩; obtain ⟨hc, hf, hz⟩ := Reach.facts hb) | ((with_reducible refine wp_region_quiet_below (by kernel_rfl) (by kernel_rfl) ?_); (repeat (any_goals (first | (go_big_quiet_step ((first | (go_at_call 99; with_reducible exact reg_reach (HOA.out _)) | (go_at_call 99; with_reducible exact reg_reach (HOB.out _)) | (go_at_call 98; with_reducible exact reg_reach (HSM.out _))))) | (quiet_step ((first | (go_at_call 99; with_reducible exact reg_reach (HOA.out _)) | (go_at_call 99; with_reducible exact reg_reach (HOB.out _)) | (go_at_call 98; with_reducible exact reg_reach (HSM.out _))))) | (refine wpQuiet_step (fun K hK => ?_); go_simp; split <;> (refine hK _ ?_; clear hK K))))); all_goals (refine wpQuiet_nil ?_; intro _ hw'; obtain ⟨⟨dq, osq⟩, hw''⟩ := hw'; subst hw'')))
    replace BU := BU.reach (Reach.grow (Reach.refl W0) dq osq)
    replace BO := BO.reach (Reach.grow (Reach.refl W0) dq osq)
    replace Q := Reach.grow Q dq osq
    clear x0_0 x0_1 x0_2 x0_3 x0_4 x0_5 xl0 x1_0 x1_1 x1_2 x1_3 x1_4 x1_5 xl1
    generalize grow (redrawn W0 dq) osq = W1 at BU BO Q ⊢
    (with_reducible refine Calls.mono (HX.out _) ?_)
    rintro e W2 ⟨rfl, hr⟩
    replace BU := BU.reach hr
    replace BO := BO.reach hr
    replace Q := Reach.trans Q hr
    clear hr
    obtain ⟨x0_0, x0_1, x0_2, x0_3, x0_4, x0_5⟩ := BU.six
    have xl0 := BU.lt
    obtain ⟨x1_0, x1_1, x1_2, x1_3, x1_4, x1_5⟩ := BO.six
    have xl1 := BO.lt
    go_wp2_with (first | (go_at_call 20; (with_reducible refine Calls.mono (rscheme10_calls _ _ _) ?_); rintro e w' ⟨rfl, rfl⟩))
    clear x0_0 x0_1 x0_2 x0_3 x0_4 x0_5 xl0 x1_0 x1_1 x1_2 x1_3 x1_4 x1_5 xl1
    go_ret
    exact ⟨ret_bool (by simp), Q⟩
  cases hv : (v3 == 0)
  · go_enter Tryz.func69, Tryz.ntmps69
    go_wp2_with fail
    have BU : Blk (w.alloc (.cells #[.bool false, .string ⟨u1.toArray⟩, .string ⟨u2.toArray⟩, .int .i64 u3, .string ⟨u4.toArray⟩, .string ⟨u5.toArray⟩] 23)) (w.heap.size) #[.bool false, .string ⟨u1.toArray⟩, .string ⟨u2.toArray⟩, .int .i64 u3, .string ⟨u4.toArray⟩, .string ⟨u5.toArray⟩] 23 := by have h := Blk.new w #[.bool false, .string ⟨u1.toArray⟩, .string ⟨u2.toArray⟩, .int .i64 u3, .string ⟨u4.toArray⟩, .string ⟨u5.toArray⟩] 23; exact h
    have BO : Blk ((w.alloc (.cells #[.bool false, .string ⟨u1.toArray⟩, .string ⟨u2.toArray⟩, .int .i64 u3, .string ⟨u4.toArray⟩, .string ⟨u5.toArray⟩] 23)).alloc (.cells #[.bool false, .string ⟨v1.toArray⟩, .string ⟨v2.toArray⟩, .int .i64 v3, .string ⟨v4.toArray⟩, .string ⟨v5.toArray⟩] 23)) (w.heap.size + 1) #[.bool false, .string ⟨v1.toArray⟩, .string ⟨v2.toArray⟩, .int .i64 v3, .string ⟨v4.toArray⟩, .string ⟨v5.toArray⟩] 23 := by have h := Blk.new (w.alloc (.cells #[.bool false, .string ⟨u1.toArray⟩, .string ⟨u2.toArray⟩, .int .i64 u3, .string ⟨u4.toArray⟩, .string ⟨u5.toArray⟩] 23)) #[.bool false, .string ⟨v1.toArray⟩, .string ⟨v2.toArray⟩, .int .i64 v3, .string ⟨v4.toArray⟩, .string ⟨v5.toArray⟩] 23; rw [World.size_alloc] at h; exact h
    replace BU := BU.reach (Reach.alloc (Reach.refl _) (.cells #[.bool false, .string ⟨v1.toArray⟩, .string ⟨v2.toArray⟩, .int .i64 v3, .string ⟨v4.toArray⟩, .string ⟨v5.toArray⟩] 23))
    have Q : Reach w _ := Reach.alloc (Reach.alloc (Reach.refl w) (.cells #[.bool false, .string ⟨u1.toArray⟩, .string ⟨u2.toArray⟩, .int .i64 u3, .string ⟨u4.toArray⟩, .string ⟨u5.toArray⟩] 23)) (.cells #[.bool false, .string ⟨v1.toArray⟩, .string ⟨v2.toArray⟩, .int .i64 v3, .string ⟨v4.toArray⟩, .string ⟨v5.toArray⟩] 23)
    generalize (w.alloc (.cells #[.bool false, .string ⟨u1.toArray⟩, .string ⟨u2.toArray⟩, .int .i64 u3, .string ⟨u4.toArray⟩, .string ⟨u5.toArray⟩] 23)).alloc (.cells #[.bool false, .string ⟨v1.toArray⟩, .string ⟨v2.toArray⟩, .int .i64 v3, .string ⟨v4.toArray⟩, .string ⟨v5.toArray⟩] 23) = W0 at BU BO Q ⊢
    obtain ⟨x0_0, x0_1, x0_2, x0_3, x0_4, x0_5⟩ := BU.six
    have xl0 := BU.lt
    obtain ⟨x1_0, x1_1, x1_2, x1_3, x1_4, x1_5⟩ := BO.six
    have xl1 := BO.lt
    go_wp2_with (first | (go_at_call 99; (with_reducible refine Calls.mono (HOA.out _) ?_); rintro e w' ⟨rfl, hb⟩; obtain ⟨hc, hf, hz⟩ := Reach.facts hb) | (go_at_call 99; (with_reducible refine Calls.mono (HOB.out _) ?_); rintro e w' ⟨rfl, hb⟩; obtain ⟨hc, hf, hz⟩ := Reach.facts hb) | (go_at_call 98; (with_reducible refine Calls.mono (HSM.out _) ?_); rintro e w' ⟨rfl, hb⟩; obtain ⟨hc, hf, hz⟩ := Reach.facts hb) | ((with_reducible refine wp_region_quiet_below (by kernel_rfl) (by kernel_rfl) ?_); (repeat (any_goals (first | (go_big_quiet_step ((first | (go_at_call 99; with_reducible exact reg_reach (HOA.out _)) | (go_at_call 99; with_reducible exact reg_reach (HOB.out _)) | (go_at_call 98; with_reducible exact reg_reach (HSM.out _))))) | (quiet_step ((first | (go_at_call 99; with_reducible exact reg_reach (HOA.out _)) | (go_at_call 99; with_reducible exact reg_reach (HOB.out _)) | (go_at_call 98; with_reducible exact reg_reach (HSM.out _))))) | (refine wpQuiet_step (fun K hK => ?_); go_simp; split <;> (refine hK _ ?_; clear hK K))))); all_goals (refine wpQuiet_nil ?_; intro _ hw'; obtain ⟨⟨dq, osq⟩, hw''⟩ := hw'; subst hw'')))
    replace BU := BU.reach (Reach.grow (Reach.refl W0) dq osq)
    replace BO := BO.reach (Reach.grow (Reach.refl W0) dq osq)
    replace Q := Reach.grow Q dq osq
    clear x0_0 x0_1 x0_2 x0_3 x0_4 x0_5 xl0 x1_0 x1_1 x1_2 x1_3 x1_4 x1_5 xl1
    generalize grow (redrawn W0 dq) osq = W1 at BU BO Q ⊢
    (with_reducible refine Calls.mono (HX.out _) ?_)
    rintro e W2 ⟨rfl, hr⟩
    replace BU := BU.reach hr
    replace BO := BO.reach hr
    replace Q := Reach.trans Q hr
    clear hr
    obtain ⟨x0_0, x0_1, x0_2, x0_3, x0_4, x0_5⟩ := BU.six
    have xl0 := BU.lt
    obtain ⟨x1_0, x1_1, x1_2, x1_3, x1_4, x1_5⟩ := BO.six
    have xl1 := BO.lt
    go_wp2_with (first | (go_at_call 20; (with_reducible refine Calls.mono (rscheme10_calls _ _ _) ?_); rintro e w' ⟨rfl, rfl⟩))
    clear x0_0 x0_1 x0_2 x0_3 x0_4 x0_5 xl0 x1_0 x1_1 x1_2 x1_3 x1_4 x1_5 xl1
    go_ret
    exact ⟨ret_bool (by simp), Q⟩
  · go_enter Tryz.func69, Tryz.ntmps69
    go_wp2_with fail
    have BU : Blk (w.alloc (.cells #[.bool false, .string ⟨u1.toArray⟩, .string ⟨u2.toArray⟩, .int .i64 u3, .string ⟨u4.toArray⟩, .string ⟨u5.toArray⟩] 23)) (w.heap.size) #[.bool false, .string ⟨u1.toArray⟩, .string ⟨u2.toArray⟩, .int .i64 u3, .string ⟨u4.toArray⟩, .string ⟨u5.toArray⟩] 23 := by have h := Blk.new w #[.bool false, .string ⟨u1.toArray⟩, .string ⟨u2.toArray⟩, .int .i64 u3, .string ⟨u4.toArray⟩, .string ⟨u5.toArray⟩] 23; exact h
    have BO : Blk ((w.alloc (.cells #[.bool false, .string ⟨u1.toArray⟩, .string ⟨u2.toArray⟩, .int .i64 u3, .string ⟨u4.toArray⟩, .string ⟨u5.toArray⟩] 23)).alloc (.cells #[.bool false, .string ⟨v1.toArray⟩, .string ⟨v2.toArray⟩, .int .i64 v3, .string ⟨v4.toArray⟩, .string ⟨v5.toArray⟩] 23)) (w.heap.size + 1) #[.bool false, .string ⟨v1.toArray⟩, .string ⟨v2.toArray⟩, .int .i64 v3, .string ⟨v4.toArray⟩, .string ⟨v5.toArray⟩] 23 := by have h := Blk.new (w.alloc (.cells #[.bool false, .string ⟨u1.toArray⟩, .string ⟨u2.toArray⟩, .int .i64 u3, .string ⟨u4.toArray⟩, .string ⟨u5.toArray⟩] 23)) #[.bool false, .string ⟨v1.toArray⟩, .string ⟨v2.toArray⟩, .int .i64 v3, .string ⟨v4.toArray⟩, .string ⟨v5.toArray⟩] 23; rw [World.size_alloc] at h; exact h
    replace BU := BU.reach (Reach.alloc (Reach.refl _) (.cells #[.bool false, .string ⟨v1.toArray⟩, .string ⟨v2.toArray⟩, .int .i64 v3, .string ⟨v4.toArray⟩, .string ⟨v5.toArray⟩] 23))
    have Q : Reach w _ := Reach.alloc (Reach.alloc (Reach.refl w) (.cells #[.bool false, .string ⟨u1.toArray⟩, .string ⟨u2.toArray⟩, .int .i64 u3, .string ⟨u4.toArray⟩, .string ⟨u5.toArray⟩] 23)) (.cells #[.bool false, .string ⟨v1.toArray⟩, .string ⟨v2.toArray⟩, .int .i64 v3, .string ⟨v4.toArray⟩, .string ⟨v5.toArray⟩] 23)
    generalize (w.alloc (.cells #[.bool false, .string ⟨u1.toArray⟩, .string ⟨u2.toArray⟩, .int .i64 u3, .string ⟨u4.toArray⟩, .string ⟨u5.toArray⟩] 23)).alloc (.cells #[.bool false, .string ⟨v1.toArray⟩, .string ⟨v2.toArray⟩, .int .i64 v3, .string ⟨v4.toArray⟩, .string ⟨v5.toArray⟩] 23) = W0 at BU BO Q ⊢
    obtain ⟨x0_0, x0_1, x0_2, x0_3, x0_4, x0_5⟩ := BU.six
    have xl0 := BU.lt
    obtain ⟨x1_0, x1_1, x1_2, x1_3, x1_4, x1_5⟩ := BO.six
    have xl1 := BO.lt
    go_wp2_with (first | (go_at_call 99; (with_reducible refine Calls.mono (HOA.out _) ?_); rintro e w' ⟨rfl, hb⟩; obtain ⟨hc, hf, hz⟩ := Reach.facts hb) | (go_at_call 99; (with_reducible refine Calls.mono (HOB.out _) ?_); rintro e w' ⟨rfl, hb⟩; obtain ⟨hc, hf, hz⟩ := Reach.facts hb) | (go_at_call 98; (with_reducible refine Calls.mono (HSM.out _) ?_); rintro e w' ⟨rfl, hb⟩; obtain ⟨hc, hf, hz⟩ := Reach.facts hb) | ((with_reducible refine wp_region_quiet_below (by kernel_rfl) (by kernel_rfl) ?_); (repeat (any_goals (first | (go_big_quiet_step ((first | (go_at_call 99; with_reducible exact reg_reach (HOA.out _)) | (go_at_call 99; with_reducible exact reg_reach (HOB.out _)) | (go_at_call 98; with_reducible exact reg_reach (HSM.out _))))) | (quiet_step ((first | (go_at_call 99; with_reducible exact reg_reach (HOA.out _)) | (go_at_call 99; with_reducible exact reg_reach (HOB.out _)) | (go_at_call 98; with_reducible exact reg_reach (HSM.out _))))) | (refine wpQuiet_step (fun K hK => ?_); go_simp; split <;> (refine hK _ ?_; clear hK K))))); all_goals (refine wpQuiet_nil ?_; intro _ hw'; obtain ⟨⟨dq, osq⟩, hw''⟩ := hw'; subst hw'')))
    replace BU := BU.reach (Reach.grow (Reach.refl W0) dq osq)
    replace BO := BO.reach (Reach.grow (Reach.refl W0) dq osq)
    replace Q := Reach.grow Q dq osq
    clear x0_0 x0_1 x0_2 x0_3 x0_4 x0_5 xl0 x1_0 x1_1 x1_2 x1_3 x1_4 x1_5 xl1
    generalize grow (redrawn W0 dq) osq = W1 at BU BO Q ⊢
    (with_reducible refine Calls.mono (HX.out _) ?_)
    rintro e W2 ⟨rfl, hr⟩
    replace BU := BU.reach hr
    replace BO := BO.reach hr
    replace Q := Reach.trans Q hr
    clear hr
    obtain ⟨x0_0, x0_1, x0_2, x0_3, x0_4, x0_5⟩ := BU.six
    have xl0 := BU.lt
    obtain ⟨x1_0, x1_1, x1_2, x1_3, x1_4, x1_5⟩ := BO.six
    have xl1 := BO.lt
    go_wp2_with (first | (go_at_call 20; (with_reducible refine Calls.mono (rscheme10_calls _ _ _) ?_); rintro e w' ⟨rfl, rfl⟩))
    clear x0_0 x0_1 x0_2 x0_3 x0_4 x0_5 xl0 x1_0 x1_1 x1_2 x1_3 x1_4 x1_5 xl1
    go_ret
    exact ⟨ret_bool (by simp), Q⟩
theorem same_right (u own : URL) (h : orgSame (orgOf u) (orgOf own) = true) : checkB u = true := by
  cases hb : checkB u
  · exfalso
    have : orgOf u = noOrg := by unfold orgOf orgB; rw [hb]; rfl
    unfold orgSame at h
    rw [this] at h
    simp [noOrg] at h
  · rfl
theorem urlM_wrong (s : Src) (u own : URL) (m : Bool) (h : checkB u = false) : urlM s u own m = false := by
  have hs : orgSame (orgOf u) (orgOf own) = false := by
    cases e : orgSame (orgOf u) (orgOf own)
    · rfl
    · rw [same_right u own e] at h; cases h
  unfold urlM
  rw [h, hs]
  simp
theorem urlM_self (s : Src) (u own : URL) (m : Bool) (hk : s.kind = 2) (h : checkB u = true) : urlM s u own m = selfB u own := by
  unfold urlM selfB plainM
  rw [hk, h]
  simp only [show ((2 : Int) = 11) = False by simp, show ((2 : Int) = 12) = False by simp, if_false, if_true, Bool.true_and]
  cases orgSame (orgOf u) (orgOf own) <;> cases checkB own <;> cases u.opq <;> cases own.opq <;> cases (u.host == own.host) <;> cases (u.port == 0) <;> cases (own.port == 0) <;> simp
set_option maxRecDepth 100000 in
set_option maxHeartbeats 4000000 in
theorem rurl10_calls (k : Int) (t s h : List UInt8) (wd : Bool) (p : Int) (pa : List UInt8) (u0 : Bool) (u1 u2 : List UInt8) (u3 : Int) (u4 u5 : List UInt8) (v0 : Bool) (v1 v2 : List UInt8) (v3 : Int) (v4 v5 : List UInt8) (moved : Bool) (w : World) (c2 : h.length ≤ 1000000) (c3 : pa.length ≤ 1000000) (a1u : -9223372036854775808 ≤ u3) (a2u : u3 ≤ 9223372036854775807) (b1u : u1.length ≤ 1000000) (b2u : u2.length ≤ 1000000) (b4u : u4.length ≤ 1000000) (b5u : u5.length ≤ 1000000) (a1v : -9223372036854775808 ≤ v3) (a2v : v3 ≤ 9223372036854775807) (b1v : v1.length ≤ 1000000) (b2v : v2.length ≤ 1000000) (b4v : v4.length ≤ 1000000) (b5v : v5.length ≤ 1000000) :
    Calls Tryz.prog 28 #[.agg #[.int .i64 k, .string ⟨t.toArray⟩, .string ⟨s.toArray⟩, .string ⟨h.toArray⟩, .bool wd, .int .i64 p, .string ⟨pa.toArray⟩], .agg #[.bool u0, .string ⟨u1.toArray⟩, .string ⟨u2.toArray⟩, .int .i64 u3, .string ⟨u4.toArray⟩, .string ⟨u5.toArray⟩], .agg #[.bool v0, .string ⟨v1.toArray⟩, .string ⟨v2.toArray⟩, .int .i64 v3, .string ⟨v4.toArray⟩, .string ⟨v5.toArray⟩], .bool moved] w fun e w' => e = .returned (.bool (urlM ⟨k, t, s, h, wd, p, pa⟩ ⟨u0, u1, u2, u3, u4, u5⟩ ⟨v0, v1, v2, v3, v4, v5⟩ moved)) ∧ Reach w w' := by
  have hx := fun W => rright_calls u0 u1 u2 u3 u4 u5 W a1u a2u b1u b2u b4u b5u
  cases hck : checkB ⟨u0, u1, u2, u3, u4, u5⟩
  · rw [urlM_wrong _ _ _ _ hck]
    rw [hck] at hx
    have HX := Lib.hid hx
    clear hx hck
    go_enter Tryz.func28, Tryz.ntmps28
    go_wp2_with (first | (go_at_call 39; (with_reducible refine Calls.mono (HX.out _) ?_); rintro e w' ⟨rfl, hb⟩; obtain ⟨hc, hf, hz⟩ := Reach.facts hb) | ((with_reducible refine wp_region_quiet_below (by kernel_rfl) (by kernel_rfl) ?_); (repeat (any_goals (first | (go_big_quiet_step ((first | (go_at_call 39; with_reducible exact reg_reach (HX.out _))))) | (quiet_step ((first | (go_at_call 39; with_reducible exact reg_reach (HX.out _))))) | (refine wpQuiet_step (fun K hK => ?_); go_simp; split <;> (refine hK _ ?_; clear hK K))))); all_goals (refine wpQuiet_nil ?_; intro _ hw'; obtain ⟨⟨dq, osq⟩, hw''⟩ := hw'; subst hw'')))
    go_ret
    exact ⟨rfl, by (repeat (first | (with_reducible assumption) | (with_reducible exact Reach.refl _) | (with_reducible refine Reach.alloc ?_ _) | (with_reducible refine Reach.drew ?_) | (with_reducible refine Reach.drewN ?_ _) | (with_reducible refine Reach.grow ?_ _ _) | (with_reducible refine Reach.setCell ?_ ?_ _) | (with_reducible refine Reach.trans ?_ (by with_reducible assumption)) | (show _ ≤ Addr.block _; first | (exact Nat.le_refl _) | (show (_ : Nat) ≤ _; omega)) | (simp; done) | (simp; omega)))⟩
  rw [hck] at hx
  have HX := Lib.hid hx
  clear hx
  by_cases n1 : k = 11
  · subst n1
    have e : urlM ⟨11, t, s, h, wd, p, pa⟩ ⟨u0, u1, u2, u3, u4, u5⟩ ⟨v0, v1, v2, v3, v4, v5⟩ moved = schM s u1 := by unfold urlM toldS; simp [hck]
    rw [e]
    clear e hck
    go_enter Tryz.func28, Tryz.ntmps28
    go_wp2_with (first | (go_at_call 39; (with_reducible refine Calls.mono (HX.out _) ?_); rintro e w' ⟨rfl, hb⟩; obtain ⟨hc, hf, hz⟩ := Reach.facts hb) | (go_at_call 20; (with_reducible refine Calls.mono (rscheme10_calls _ _ _) ?_); rintro e w' ⟨rfl, rfl⟩) | ((with_reducible refine wp_region_quiet_below (by kernel_rfl) (by kernel_rfl) ?_); (repeat (any_goals (first | (go_big_quiet_step ((first | (go_at_call 39; with_reducible exact reg_reach (HX.out _)) | (go_at_call 20; with_reducible exact reg_pure (rscheme10_calls _ _ _))))) | (quiet_step ((first | (go_at_call 39; with_reducible exact reg_reach (HX.out _)) | (go_at_call 20; with_reducible exact reg_pure (rscheme10_calls _ _ _))))) | (refine wpQuiet_step (fun K hK => ?_); go_simp; split <;> (refine hK _ ?_; clear hK K))))); all_goals (refine wpQuiet_nil ?_; intro _ hw'; obtain ⟨⟨dq, osq⟩, hw''⟩ := hw'; subst hw'')))
    go_ret
    exact ⟨rfl, by (repeat (first | (with_reducible assumption) | (with_reducible exact Reach.refl _) | (with_reducible refine Reach.alloc ?_ _) | (with_reducible refine Reach.drew ?_) | (with_reducible refine Reach.drewN ?_ _) | (with_reducible refine Reach.grow ?_ _ _) | (with_reducible refine Reach.setCell ?_ ?_ _) | (with_reducible refine Reach.trans ?_ (by with_reducible assumption)) | (show _ ≤ Addr.block _; first | (exact Nat.le_refl _) | (show (_ : Nat) ≤ _; omega)) | (simp; done) | (simp; omega)))⟩
  by_cases n3 : k = 2
  · subst n3
    have hsf := fun W => rself_calls u0 u1 u2 u3 u4 u5 v0 v1 v2 v3 v4 v5 W a1u a2u b1u b2u b4u b5u a1v a2v b1v b2v b4v b5v
    rw [urlM_self _ _ _ _ rfl hck]
    generalize selfB ⟨u0, u1, u2, u3, u4, u5⟩ ⟨v0, v1, v2, v3, v4, v5⟩ = sb at *
    have HSF := Lib.hid hsf
    clear hsf hck
    go_enter Tryz.func28, Tryz.ntmps28
    go_wp2_with (first | (go_at_call 39; (with_reducible refine Calls.mono (HX.out _) ?_); rintro e w' ⟨rfl, hb⟩; obtain ⟨hc, hf, hz⟩ := Reach.facts hb) | (go_at_call 69; (with_reducible refine Calls.mono (HSF.out _) ?_); rintro e w' ⟨rfl, hb⟩; obtain ⟨hc, hf, hz⟩ := Reach.facts hb) | ((with_reducible refine wp_region_quiet_below (by kernel_rfl) (by kernel_rfl) ?_); (repeat (any_goals (first | (go_big_quiet_step ((first | (go_at_call 39; with_reducible exact reg_reach (HX.out _)) | (go_at_call 69; with_reducible exact reg_reach (HSF.out _))))) | (quiet_step ((first | (go_at_call 39; with_reducible exact reg_reach (HX.out _)) | (go_at_call 69; with_reducible exact reg_reach (HSF.out _))))) | (refine wpQuiet_step (fun K hK => ?_); go_simp; split <;> (refine hK _ ?_; clear hK K))))); all_goals (refine wpQuiet_nil ?_; intro _ hw'; obtain ⟨⟨dq, osq⟩, hw''⟩ := hw'; subst hw'')))
    go_ret
    exact ⟨rfl, by (repeat (first | (with_reducible assumption) | (with_reducible exact Reach.refl _) | (with_reducible refine Reach.alloc ?_ _) | (with_reducible refine Reach.drew ?_) | (with_reducible refine Reach.drewN ?_ _) | (with_reducible refine Reach.grow ?_ _ _) | (with_reducible refine Reach.setCell ?_ ?_ _) | (with_reducible refine Reach.trans ?_ (by with_reducible assumption)) | (show _ ≤ Addr.block _; first | (exact Nat.le_refl _) | (show (_ : Nat) ≤ _; omega)) | (simp; done) | (simp; omega)))⟩
  by_cases n2 : k = 12
  · subst n2
    have hh := fun W => rhost10_calls 12 t s h wd p pa u2 W c2 b2u
    have hpo := fun W => rportM_calls 12 t s h wd p pa u0 u1 u2 u3 u4 u5 W
    have hpa := fun W => rpath10_calls pa u4 moved W c3 b4u
    have e : urlM ⟨12, t, s, h, wd, p, pa⟩ ⟨u0, u1, u2, u3, u4, u5⟩ ⟨v0, v1, v2, v3, v4, v5⟩ moved = (!u0 && schM (if s = [] then v1 else s) u1 && hostM wd h u2 && portM p ⟨u0, u1, u2, u3, u4, u5⟩ && pathM pa u4 moved) := by
      unfold urlM toldS
      simp only [hck]
      by_cases hs : s = [] <;> cases u0 <;> simp [hs]
    rw [e]
    clear e hck n1 n3
    generalize hostM wd h u2 = hb at *
    generalize portM p ⟨u0, u1, u2, u3, u4, u5⟩ = pb at *
    generalize pathM pa u4 moved = ab at *
    have HH := Lib.hid hh
    have HPO := Lib.hid hpo
    have HPA := Lib.hid hpa
    clear hh hpo hpa
    have hsplit : ∀ told : List UInt8, told = (if s = [] then v1 else s) → Calls Tryz.prog 28 #[.agg #[.int .i64 12, .string ⟨t.toArray⟩, .string ⟨s.toArray⟩, .string ⟨h.toArray⟩, .bool wd, .int .i64 p, .string ⟨pa.toArray⟩], .agg #[.bool u0, .string ⟨u1.toArray⟩, .string ⟨u2.toArray⟩, .int .i64 u3, .string ⟨u4.toArray⟩, .string ⟨u5.toArray⟩], .agg #[.bool v0, .string ⟨v1.toArray⟩, .string ⟨v2.toArray⟩, .int .i64 v3, .string ⟨v4.toArray⟩, .string ⟨v5.toArray⟩], .bool moved] w fun e w' => e = .returned (.bool (!u0 && schM told u1 && hb && pb && ab)) ∧ Reach w w' := by
      intro told ht
      cases u0
      rotate_left
      · cases s with
        | nil =>
          clear ht
          go_enter Tryz.func28, Tryz.ntmps28
          go_wp2_with (first | (go_at_call 39; (with_reducible refine Calls.mono (HX.out _) ?_); rintro e w' ⟨rfl, hb⟩; obtain ⟨hc, hf, hz⟩ := Reach.facts hb) | ((with_reducible refine wp_region_quiet_below (by kernel_rfl) (by kernel_rfl) ?_); (repeat (any_goals (first | (go_big_quiet_step ((first | (go_at_call 39; with_reducible exact reg_reach (HX.out _))))) | (quiet_step ((first | (go_at_call 39; with_reducible exact reg_reach (HX.out _))))) | (refine wpQuiet_step (fun K hK => ?_); go_simp; split <;> (refine hK _ ?_; clear hK K))))); all_goals (refine wpQuiet_nil ?_; intro _ hw'; obtain ⟨⟨dq, osq⟩, hw''⟩ := hw'; subst hw'')))
          go_ret
          exact ⟨ret_bool (by simp), by (repeat (first | (with_reducible assumption) | (with_reducible exact Reach.refl _) | (with_reducible refine Reach.alloc ?_ _) | (with_reducible refine Reach.drew ?_) | (with_reducible refine Reach.drewN ?_ _) | (with_reducible refine Reach.grow ?_ _ _) | (with_reducible refine Reach.setCell ?_ ?_ _) | (with_reducible refine Reach.trans ?_ (by with_reducible assumption)) | (show _ ≤ Addr.block _; first | (exact Nat.le_refl _) | (show (_ : Nat) ≤ _; omega)) | (simp; done) | (simp; omega)))⟩
        | cons x xs =>
          clear ht
          go_enter Tryz.func28, Tryz.ntmps28
          go_wp2_with (first | (go_at_call 39; (with_reducible refine Calls.mono (HX.out _) ?_); rintro e w' ⟨rfl, hb⟩; obtain ⟨hc, hf, hz⟩ := Reach.facts hb) | ((with_reducible refine wp_region_quiet_below (by kernel_rfl) (by kernel_rfl) ?_); (repeat (any_goals (first | (go_big_quiet_step ((first | (go_at_call 39; with_reducible exact reg_reach (HX.out _))))) | (quiet_step ((first | (go_at_call 39; with_reducible exact reg_reach (HX.out _))))) | (refine wpQuiet_step (fun K hK => ?_); go_simp; split <;> (refine hK _ ?_; clear hK K))))); all_goals (refine wpQuiet_nil ?_; intro _ hw'; obtain ⟨⟨dq, osq⟩, hw''⟩ := hw'; subst hw'')))
          go_ret
          exact ⟨ret_bool (by simp), by (repeat (first | (with_reducible assumption) | (with_reducible exact Reach.refl _) | (with_reducible refine Reach.alloc ?_ _) | (with_reducible refine Reach.drew ?_) | (with_reducible refine Reach.drewN ?_ _) | (with_reducible refine Reach.grow ?_ _ _) | (with_reducible refine Reach.setCell ?_ ?_ _) | (with_reducible refine Reach.trans ?_ (by with_reducible assumption)) | (show _ ≤ Addr.block _; first | (exact Nat.le_refl _) | (show (_ : Nat) ≤ _; omega)) | (simp; done) | (simp; omega)))⟩
      cases s with
      | nil =>
        rw [if_pos rfl] at ht
        have ht2 := ht.symm
        clear ht
        subst ht2
        cases hs : schM v1 u1
        · go_enter Tryz.func28, Tryz.ntmps28
          go_wp2_with (first | (go_at_call 39; (with_reducible refine Calls.mono (HX.out _) ?_); rintro e w' ⟨rfl, hb⟩; obtain ⟨hc, hf, hz⟩ := Reach.facts hb) | (go_at_call 20; (with_reducible refine Calls.mono (rscheme10_calls _ _ _) ?_); rintro e w' ⟨rfl, rfl⟩) | ((with_reducible refine wp_region_quiet_below (by kernel_rfl) (by kernel_rfl) ?_); (repeat (any_goals (first | (go_big_quiet_step ((first | (go_at_call 39; with_reducible exact reg_reach (HX.out _)) | (go_at_call 20; with_reducible exact reg_pure (rscheme10_calls _ _ _))))) | (quiet_step ((first | (go_at_call 39; with_reducible exact reg_reach (HX.out _)) | (go_at_call 20; with_reducible exact reg_pure (rscheme10_calls _ _ _))))) | (refine wpQuiet_step (fun K hK => ?_); go_simp; split <;> (refine hK _ ?_; clear hK K))))); all_goals (refine wpQuiet_nil ?_; intro _ hw'; obtain ⟨⟨dq, osq⟩, hw''⟩ := hw'; subst hw'')))
          go_ret
          exact ⟨ret_bool (by simp), by (repeat (first | (with_reducible assumption) | (with_reducible exact Reach.refl _) | (with_reducible refine Reach.alloc ?_ _) | (with_reducible refine Reach.drew ?_) | (with_reducible refine Reach.drewN ?_ _) | (with_reducible refine Reach.grow ?_ _ _) | (with_reducible refine Reach.setCell ?_ ?_ _) | (with_reducible refine Reach.trans ?_ (by with_reducible assumption)) | (show _ ≤ Addr.block _; first | (exact Nat.le_refl _) | (show (_ : Nat) ≤ _; omega)) | (simp; done) | (simp; omega)))⟩
        cases hb
        · go_enter Tryz.func28, Tryz.ntmps28
          go_wp2_with (first | (go_at_call 39; (with_reducible refine Calls.mono (HX.out _) ?_); rintro e w' ⟨rfl, hb⟩; obtain ⟨hc, hf, hz⟩ := Reach.facts hb) | (go_at_call 20; (with_reducible refine Calls.mono (rscheme10_calls _ _ _) ?_); rintro e w' ⟨rfl, rfl⟩) | (go_at_call 22; (with_reducible refine Calls.mono (HH.out _) ?_); rintro e w' ⟨rfl, hb⟩; obtain ⟨hc, hf, hz⟩ := Reach.facts hb) | ((with_reducible refine wp_region_quiet_below (by kernel_rfl) (by kernel_rfl) ?_); (repeat (any_goals (first | (go_big_quiet_step ((first | (go_at_call 39; with_reducible exact reg_reach (HX.out _)) | (go_at_call 20; with_reducible exact reg_pure (rscheme10_calls _ _ _)) | (go_at_call 22; with_reducible exact reg_reach (HH.out _))))) | (quiet_step ((first | (go_at_call 39; with_reducible exact reg_reach (HX.out _)) | (go_at_call 20; with_reducible exact reg_pure (rscheme10_calls _ _ _)) | (go_at_call 22; with_reducible exact reg_reach (HH.out _))))) | (refine wpQuiet_step (fun K hK => ?_); go_simp; split <;> (refine hK _ ?_; clear hK K))))); all_goals (refine wpQuiet_nil ?_; intro _ hw'; obtain ⟨⟨dq, osq⟩, hw''⟩ := hw'; subst hw'')))
          go_ret
          exact ⟨ret_bool (by simp), by (repeat (first | (with_reducible assumption) | (with_reducible exact Reach.refl _) | (with_reducible refine Reach.alloc ?_ _) | (with_reducible refine Reach.drew ?_) | (with_reducible refine Reach.drewN ?_ _) | (with_reducible refine Reach.grow ?_ _ _) | (with_reducible refine Reach.setCell ?_ ?_ _) | (with_reducible refine Reach.trans ?_ (by with_reducible assumption)) | (show _ ≤ Addr.block _; first | (exact Nat.le_refl _) | (show (_ : Nat) ≤ _; omega)) | (simp; done) | (simp; omega)))⟩
        cases pb
        · go_enter Tryz.func28, Tryz.ntmps28
          go_wp2_with fail
          have BS : Blk (w.alloc (.cells #[.int .i64 12, .string ⟨t.toArray⟩, .string ⟨#[]⟩, .string ⟨h.toArray⟩, .bool wd, .int .i64 p, .string ⟨pa.toArray⟩] 33)) (w.heap.size) #[.int .i64 12, .string ⟨t.toArray⟩, .string ⟨#[]⟩, .string ⟨h.toArray⟩, .bool wd, .int .i64 p, .string ⟨pa.toArray⟩] 33 := by have h := Blk.new w #[.int .i64 12, .string ⟨t.toArray⟩, .string ⟨#[]⟩, .string ⟨h.toArray⟩, .bool wd, .int .i64 p, .string ⟨pa.toArray⟩] 33; exact h
          have BU : Blk ((w.alloc (.cells #[.int .i64 12, .string ⟨t.toArray⟩, .string ⟨#[]⟩, .string ⟨h.toArray⟩, .bool wd, .int .i64 p, .string ⟨pa.toArray⟩] 33)).alloc (.cells #[.bool false, .string ⟨u1.toArray⟩, .string ⟨u2.toArray⟩, .int .i64 u3, .string ⟨u4.toArray⟩, .string ⟨u5.toArray⟩] 23)) (w.heap.size + 1) #[.bool false, .string ⟨u1.toArray⟩, .string ⟨u2.toArray⟩, .int .i64 u3, .string ⟨u4.toArray⟩, .string ⟨u5.toArray⟩] 23 := by have h := Blk.new (w.alloc (.cells #[.int .i64 12, .string ⟨t.toArray⟩, .string ⟨#[]⟩, .string ⟨h.toArray⟩, .bool wd, .int .i64 p, .string ⟨pa.toArray⟩] 33)) #[.bool false, .string ⟨u1.toArray⟩, .string ⟨u2.toArray⟩, .int .i64 u3, .string ⟨u4.toArray⟩, .string ⟨u5.toArray⟩] 23; rw [World.size_alloc] at h; exact h
          replace BS := BS.reach (Reach.alloc (Reach.refl _) (.cells #[.bool false, .string ⟨u1.toArray⟩, .string ⟨u2.toArray⟩, .int .i64 u3, .string ⟨u4.toArray⟩, .string ⟨u5.toArray⟩] 23))
          have BO : Blk (((w.alloc (.cells #[.int .i64 12, .string ⟨t.toArray⟩, .string ⟨#[]⟩, .string ⟨h.toArray⟩, .bool wd, .int .i64 p, .string ⟨pa.toArray⟩] 33)).alloc (.cells #[.bool false, .string ⟨u1.toArray⟩, .string ⟨u2.toArray⟩, .int .i64 u3, .string ⟨u4.toArray⟩, .string ⟨u5.toArray⟩] 23)).alloc (.cells #[.bool v0, .string ⟨v1.toArray⟩, .string ⟨v2.toArray⟩, .int .i64 v3, .string ⟨v4.toArray⟩, .string ⟨v5.toArray⟩] 23)) (w.heap.size + 2) #[.bool v0, .string ⟨v1.toArray⟩, .string ⟨v2.toArray⟩, .int .i64 v3, .string ⟨v4.toArray⟩, .string ⟨v5.toArray⟩] 23 := by have h := Blk.new ((w.alloc (.cells #[.int .i64 12, .string ⟨t.toArray⟩, .string ⟨#[]⟩, .string ⟨h.toArray⟩, .bool wd, .int .i64 p, .string ⟨pa.toArray⟩] 33)).alloc (.cells #[.bool false, .string ⟨u1.toArray⟩, .string ⟨u2.toArray⟩, .int .i64 u3, .string ⟨u4.toArray⟩, .string ⟨u5.toArray⟩] 23)) #[.bool v0, .string ⟨v1.toArray⟩, .string ⟨v2.toArray⟩, .int .i64 v3, .string ⟨v4.toArray⟩, .string ⟨v5.toArray⟩] 23; rw [World.size_alloc, World.size_alloc] at h; exact h
          replace BS := BS.reach (Reach.alloc (Reach.refl _) (.cells #[.bool v0, .string ⟨v1.toArray⟩, .string ⟨v2.toArray⟩, .int .i64 v3, .string ⟨v4.toArray⟩, .string ⟨v5.toArray⟩] 23))
          replace BU := BU.reach (Reach.alloc (Reach.refl _) (.cells #[.bool v0, .string ⟨v1.toArray⟩, .string ⟨v2.toArray⟩, .int .i64 v3, .string ⟨v4.toArray⟩, .string ⟨v5.toArray⟩] 23))
          have Q : Reach w _ := Reach.alloc (Reach.alloc (Reach.alloc (Reach.refl w) (.cells #[.int .i64 12, .string ⟨t.toArray⟩, .string ⟨#[]⟩, .string ⟨h.toArray⟩, .bool wd, .int .i64 p, .string ⟨pa.toArray⟩] 33)) (.cells #[.bool false, .string ⟨u1.toArray⟩, .string ⟨u2.toArray⟩, .int .i64 u3, .string ⟨u4.toArray⟩, .string ⟨u5.toArray⟩] 23)) (.cells #[.bool v0, .string ⟨v1.toArray⟩, .string ⟨v2.toArray⟩, .int .i64 v3, .string ⟨v4.toArray⟩, .string ⟨v5.toArray⟩] 23)
          generalize ((w.alloc (.cells #[.int .i64 12, .string ⟨t.toArray⟩, .string ⟨#[]⟩, .string ⟨h.toArray⟩, .bool wd, .int .i64 p, .string ⟨pa.toArray⟩] 33)).alloc (.cells #[.bool false, .string ⟨u1.toArray⟩, .string ⟨u2.toArray⟩, .int .i64 u3, .string ⟨u4.toArray⟩, .string ⟨u5.toArray⟩] 23)).alloc (.cells #[.bool v0, .string ⟨v1.toArray⟩, .string ⟨v2.toArray⟩, .int .i64 v3, .string ⟨v4.toArray⟩, .string ⟨v5.toArray⟩] 23) = W0 at BS BU BO Q ⊢
          (with_reducible refine Calls.mono (HX.out _) ?_)
          rintro e W1 ⟨rfl, hr⟩
          replace BS := BS.reach hr
          replace BU := BU.reach hr
          replace BO := BO.reach hr
          replace Q := Reach.trans Q hr
          clear hr
          obtain ⟨x0_0, x0_1, x0_2, x0_3, x0_4, x0_5, x0_6⟩ := BS.seven
          have xl0 := BS.lt
          obtain ⟨x1_0, x1_1, x1_2, x1_3, x1_4, x1_5⟩ := BU.six
          have xl1 := BU.lt
          obtain ⟨x2_0, x2_1, x2_2, x2_3, x2_4, x2_5⟩ := BO.six
          have xl2 := BO.lt
          go_wp2_with (first | (go_at_call 20; (with_reducible refine Calls.mono (rscheme10_calls _ _ _) ?_); rintro e w' ⟨rfl, rfl⟩))
          clear x0_0 x0_1 x0_2 x0_3 x0_4 x0_5 x0_6 xl0 x1_0 x1_1 x1_2 x1_3 x1_4 x1_5 xl1 x2_0 x2_1 x2_2 x2_3 x2_4 x2_5 xl2
          (with_reducible refine Calls.mono (HH.out _) ?_)
          rintro e W2 ⟨rfl, hr⟩
          replace BS := BS.reach hr
          replace BU := BU.reach hr
          replace Q := Reach.trans Q hr
          clear hr
          obtain ⟨x0_0, x0_1, x0_2, x0_3, x0_4, x0_5, x0_6⟩ := BS.seven
          have xl0 := BS.lt
          obtain ⟨x1_0, x1_1, x1_2, x1_3, x1_4, x1_5⟩ := BU.six
          have xl1 := BU.lt
          go_wp2_with fail
          clear x0_0 x0_1 x0_2 x0_3 x0_4 x0_5 x0_6 xl0 x1_0 x1_1 x1_2 x1_3 x1_4 x1_5 xl1
          (with_reducible refine Calls.mono (HPO.out _) ?_)
          rintro e W3 ⟨rfl, hr⟩
          replace BS := BS.reach hr
          replace BU := BU.reach hr
          replace Q := Reach.trans Q hr
          clear hr
          obtain ⟨x0_0, x0_1, x0_2, x0_3, x0_4, x0_5, x0_6⟩ := BS.seven
          have xl0 := BS.lt
          obtain ⟨x1_0, x1_1, x1_2, x1_3, x1_4, x1_5⟩ := BU.six
          have xl1 := BU.lt
          go_wp2_with fail
          clear x0_0 x0_1 x0_2 x0_3 x0_4 x0_5 x0_6 xl0 x1_0 x1_1 x1_2 x1_3 x1_4 x1_5 xl1
          go_ret
          exact ⟨ret_bool (by simp), Q⟩
        · go_enter Tryz.func28, Tryz.ntmps28
          go_wp2_with fail
          have BS : Blk (w.alloc (.cells #[.int .i64 12, .string ⟨t.toArray⟩, .string ⟨#[]⟩, .string ⟨h.toArray⟩, .bool wd, .int .i64 p, .string ⟨pa.toArray⟩] 33)) (w.heap.size) #[.int .i64 12, .string ⟨t.toArray⟩, .string ⟨#[]⟩, .string ⟨h.toArray⟩, .bool wd, .int .i64 p, .string ⟨pa.toArray⟩] 33 := by have h := Blk.new w #[.int .i64 12, .string ⟨t.toArray⟩, .string ⟨#[]⟩, .string ⟨h.toArray⟩, .bool wd, .int .i64 p, .string ⟨pa.toArray⟩] 33; exact h
          have BU : Blk ((w.alloc (.cells #[.int .i64 12, .string ⟨t.toArray⟩, .string ⟨#[]⟩, .string ⟨h.toArray⟩, .bool wd, .int .i64 p, .string ⟨pa.toArray⟩] 33)).alloc (.cells #[.bool false, .string ⟨u1.toArray⟩, .string ⟨u2.toArray⟩, .int .i64 u3, .string ⟨u4.toArray⟩, .string ⟨u5.toArray⟩] 23)) (w.heap.size + 1) #[.bool false, .string ⟨u1.toArray⟩, .string ⟨u2.toArray⟩, .int .i64 u3, .string ⟨u4.toArray⟩, .string ⟨u5.toArray⟩] 23 := by have h := Blk.new (w.alloc (.cells #[.int .i64 12, .string ⟨t.toArray⟩, .string ⟨#[]⟩, .string ⟨h.toArray⟩, .bool wd, .int .i64 p, .string ⟨pa.toArray⟩] 33)) #[.bool false, .string ⟨u1.toArray⟩, .string ⟨u2.toArray⟩, .int .i64 u3, .string ⟨u4.toArray⟩, .string ⟨u5.toArray⟩] 23; rw [World.size_alloc] at h; exact h
          replace BS := BS.reach (Reach.alloc (Reach.refl _) (.cells #[.bool false, .string ⟨u1.toArray⟩, .string ⟨u2.toArray⟩, .int .i64 u3, .string ⟨u4.toArray⟩, .string ⟨u5.toArray⟩] 23))
          have BO : Blk (((w.alloc (.cells #[.int .i64 12, .string ⟨t.toArray⟩, .string ⟨#[]⟩, .string ⟨h.toArray⟩, .bool wd, .int .i64 p, .string ⟨pa.toArray⟩] 33)).alloc (.cells #[.bool false, .string ⟨u1.toArray⟩, .string ⟨u2.toArray⟩, .int .i64 u3, .string ⟨u4.toArray⟩, .string ⟨u5.toArray⟩] 23)).alloc (.cells #[.bool v0, .string ⟨v1.toArray⟩, .string ⟨v2.toArray⟩, .int .i64 v3, .string ⟨v4.toArray⟩, .string ⟨v5.toArray⟩] 23)) (w.heap.size + 2) #[.bool v0, .string ⟨v1.toArray⟩, .string ⟨v2.toArray⟩, .int .i64 v3, .string ⟨v4.toArray⟩, .string ⟨v5.toArray⟩] 23 := by have h := Blk.new ((w.alloc (.cells #[.int .i64 12, .string ⟨t.toArray⟩, .string ⟨#[]⟩, .string ⟨h.toArray⟩, .bool wd, .int .i64 p, .string ⟨pa.toArray⟩] 33)).alloc (.cells #[.bool false, .string ⟨u1.toArray⟩, .string ⟨u2.toArray⟩, .int .i64 u3, .string ⟨u4.toArray⟩, .string ⟨u5.toArray⟩] 23)) #[.bool v0, .string ⟨v1.toArray⟩, .string ⟨v2.toArray⟩, .int .i64 v3, .string ⟨v4.toArray⟩, .string ⟨v5.toArray⟩] 23; rw [World.size_alloc, World.size_alloc] at h; exact h
          replace BS := BS.reach (Reach.alloc (Reach.refl _) (.cells #[.bool v0, .string ⟨v1.toArray⟩, .string ⟨v2.toArray⟩, .int .i64 v3, .string ⟨v4.toArray⟩, .string ⟨v5.toArray⟩] 23))
          replace BU := BU.reach (Reach.alloc (Reach.refl _) (.cells #[.bool v0, .string ⟨v1.toArray⟩, .string ⟨v2.toArray⟩, .int .i64 v3, .string ⟨v4.toArray⟩, .string ⟨v5.toArray⟩] 23))
          have Q : Reach w _ := Reach.alloc (Reach.alloc (Reach.alloc (Reach.refl w) (.cells #[.int .i64 12, .string ⟨t.toArray⟩, .string ⟨#[]⟩, .string ⟨h.toArray⟩, .bool wd, .int .i64 p, .string ⟨pa.toArray⟩] 33)) (.cells #[.bool false, .string ⟨u1.toArray⟩, .string ⟨u2.toArray⟩, .int .i64 u3, .string ⟨u4.toArray⟩, .string ⟨u5.toArray⟩] 23)) (.cells #[.bool v0, .string ⟨v1.toArray⟩, .string ⟨v2.toArray⟩, .int .i64 v3, .string ⟨v4.toArray⟩, .string ⟨v5.toArray⟩] 23)
          generalize ((w.alloc (.cells #[.int .i64 12, .string ⟨t.toArray⟩, .string ⟨#[]⟩, .string ⟨h.toArray⟩, .bool wd, .int .i64 p, .string ⟨pa.toArray⟩] 33)).alloc (.cells #[.bool false, .string ⟨u1.toArray⟩, .string ⟨u2.toArray⟩, .int .i64 u3, .string ⟨u4.toArray⟩, .string ⟨u5.toArray⟩] 23)).alloc (.cells #[.bool v0, .string ⟨v1.toArray⟩, .string ⟨v2.toArray⟩, .int .i64 v3, .string ⟨v4.toArray⟩, .string ⟨v5.toArray⟩] 23) = W0 at BS BU BO Q ⊢
          (with_reducible refine Calls.mono (HX.out _) ?_)
          rintro e W1 ⟨rfl, hr⟩
          replace BS := BS.reach hr
          replace BU := BU.reach hr
          replace BO := BO.reach hr
          replace Q := Reach.trans Q hr
          clear hr
          obtain ⟨x0_0, x0_1, x0_2, x0_3, x0_4, x0_5, x0_6⟩ := BS.seven
          have xl0 := BS.lt
          obtain ⟨x1_0, x1_1, x1_2, x1_3, x1_4, x1_5⟩ := BU.six
          have xl1 := BU.lt
          obtain ⟨x2_0, x2_1, x2_2, x2_3, x2_4, x2_5⟩ := BO.six
          have xl2 := BO.lt
          go_wp2_with (first | (go_at_call 20; (with_reducible refine Calls.mono (rscheme10_calls _ _ _) ?_); rintro e w' ⟨rfl, rfl⟩))
          clear x0_0 x0_1 x0_2 x0_3 x0_4 x0_5 x0_6 xl0 x1_0 x1_1 x1_2 x1_3 x1_4 x1_5 xl1 x2_0 x2_1 x2_2 x2_3 x2_4 x2_5 xl2
          (with_reducible refine Calls.mono (HH.out _) ?_)
          rintro e W2 ⟨rfl, hr⟩
          replace BS := BS.reach hr
          replace BU := BU.reach hr
          replace Q := Reach.trans Q hr
          clear hr
          obtain ⟨x0_0, x0_1, x0_2, x0_3, x0_4, x0_5, x0_6⟩ := BS.seven
          have xl0 := BS.lt
          obtain ⟨x1_0, x1_1, x1_2, x1_3, x1_4, x1_5⟩ := BU.six
          have xl1 := BU.lt
          go_wp2_with fail
          clear x0_0 x0_1 x0_2 x0_3 x0_4 x0_5 x0_6 xl0 x1_0 x1_1 x1_2 x1_3 x1_4 x1_5 xl1
          (with_reducible refine Calls.mono (HPO.out _) ?_)
          rintro e W3 ⟨rfl, hr⟩
          replace BS := BS.reach hr
          replace BU := BU.reach hr
          replace Q := Reach.trans Q hr
          clear hr
          obtain ⟨x0_0, x0_1, x0_2, x0_3, x0_4, x0_5, x0_6⟩ := BS.seven
          have xl0 := BS.lt
          obtain ⟨x1_0, x1_1, x1_2, x1_3, x1_4, x1_5⟩ := BU.six
          have xl1 := BU.lt
          go_wp2_with fail
          clear x0_0 x0_1 x0_2 x0_3 x0_4 x0_5 x0_6 xl0 x1_0 x1_1 x1_2 x1_3 x1_4 x1_5 xl1
          (with_reducible refine Calls.mono (HPA.out _) ?_)
          rintro e W4 ⟨rfl, hr⟩
          replace Q := Reach.trans Q hr
          clear hr
          go_wp2_with fail
          go_ret
          exact ⟨ret_bool (by simp), Q⟩
      | cons x xs =>
        rw [if_neg (by simp)] at ht
        subst ht
        cases hs : schM (x :: xs) u1
        · go_enter Tryz.func28, Tryz.ntmps28
          go_wp2_with (first | (go_at_call 39; (with_reducible refine Calls.mono (HX.out _) ?_); rintro e w' ⟨rfl, hb⟩; obtain ⟨hc, hf, hz⟩ := Reach.facts hb) | (go_at_call 20; (with_reducible refine Calls.mono (rscheme10_calls _ _ _) ?_); rintro e w' ⟨rfl, rfl⟩) | ((with_reducible refine wp_region_quiet_below (by kernel_rfl) (by kernel_rfl) ?_); (repeat (any_goals (first | (go_big_quiet_step ((first | (go_at_call 39; with_reducible exact reg_reach (HX.out _)) | (go_at_call 20; with_reducible exact reg_pure (rscheme10_calls _ _ _))))) | (quiet_step ((first | (go_at_call 39; with_reducible exact reg_reach (HX.out _)) | (go_at_call 20; with_reducible exact reg_pure (rscheme10_calls _ _ _))))) | (refine wpQuiet_step (fun K hK => ?_); go_simp; split <;> (refine hK _ ?_; clear hK K))))); all_goals (refine wpQuiet_nil ?_; intro _ hw'; obtain ⟨⟨dq, osq⟩, hw''⟩ := hw'; subst hw'')))
          go_ret
          exact ⟨ret_bool (by simp), by (repeat (first | (with_reducible assumption) | (with_reducible exact Reach.refl _) | (with_reducible refine Reach.alloc ?_ _) | (with_reducible refine Reach.drew ?_) | (with_reducible refine Reach.drewN ?_ _) | (with_reducible refine Reach.grow ?_ _ _) | (with_reducible refine Reach.setCell ?_ ?_ _) | (with_reducible refine Reach.trans ?_ (by with_reducible assumption)) | (show _ ≤ Addr.block _; first | (exact Nat.le_refl _) | (show (_ : Nat) ≤ _; omega)) | (simp; done) | (simp; omega)))⟩
        cases hb
        · go_enter Tryz.func28, Tryz.ntmps28
          go_wp2_with (first | (go_at_call 39; (with_reducible refine Calls.mono (HX.out _) ?_); rintro e w' ⟨rfl, hb⟩; obtain ⟨hc, hf, hz⟩ := Reach.facts hb) | (go_at_call 20; (with_reducible refine Calls.mono (rscheme10_calls _ _ _) ?_); rintro e w' ⟨rfl, rfl⟩) | (go_at_call 22; (with_reducible refine Calls.mono (HH.out _) ?_); rintro e w' ⟨rfl, hb⟩; obtain ⟨hc, hf, hz⟩ := Reach.facts hb) | ((with_reducible refine wp_region_quiet_below (by kernel_rfl) (by kernel_rfl) ?_); (repeat (any_goals (first | (go_big_quiet_step ((first | (go_at_call 39; with_reducible exact reg_reach (HX.out _)) | (go_at_call 20; with_reducible exact reg_pure (rscheme10_calls _ _ _)) | (go_at_call 22; with_reducible exact reg_reach (HH.out _))))) | (quiet_step ((first | (go_at_call 39; with_reducible exact reg_reach (HX.out _)) | (go_at_call 20; with_reducible exact reg_pure (rscheme10_calls _ _ _)) | (go_at_call 22; with_reducible exact reg_reach (HH.out _))))) | (refine wpQuiet_step (fun K hK => ?_); go_simp; split <;> (refine hK _ ?_; clear hK K))))); all_goals (refine wpQuiet_nil ?_; intro _ hw'; obtain ⟨⟨dq, osq⟩, hw''⟩ := hw'; subst hw'')))
          go_ret
          exact ⟨ret_bool (by simp), by (repeat (first | (with_reducible assumption) | (with_reducible exact Reach.refl _) | (with_reducible refine Reach.alloc ?_ _) | (with_reducible refine Reach.drew ?_) | (with_reducible refine Reach.drewN ?_ _) | (with_reducible refine Reach.grow ?_ _ _) | (with_reducible refine Reach.setCell ?_ ?_ _) | (with_reducible refine Reach.trans ?_ (by with_reducible assumption)) | (show _ ≤ Addr.block _; first | (exact Nat.le_refl _) | (show (_ : Nat) ≤ _; omega)) | (simp; done) | (simp; omega)))⟩
        cases pb
        · go_enter Tryz.func28, Tryz.ntmps28
          go_wp2_with fail
          have BS : Blk (w.alloc (.cells #[.int .i64 12, .string ⟨t.toArray⟩, .string ⟨(x :: xs).toArray⟩, .string ⟨h.toArray⟩, .bool wd, .int .i64 p, .string ⟨pa.toArray⟩] 33)) (w.heap.size) #[.int .i64 12, .string ⟨t.toArray⟩, .string ⟨(x :: xs).toArray⟩, .string ⟨h.toArray⟩, .bool wd, .int .i64 p, .string ⟨pa.toArray⟩] 33 := by have h := Blk.new w #[.int .i64 12, .string ⟨t.toArray⟩, .string ⟨(x :: xs).toArray⟩, .string ⟨h.toArray⟩, .bool wd, .int .i64 p, .string ⟨pa.toArray⟩] 33; exact h
          have BU : Blk ((w.alloc (.cells #[.int .i64 12, .string ⟨t.toArray⟩, .string ⟨(x :: xs).toArray⟩, .string ⟨h.toArray⟩, .bool wd, .int .i64 p, .string ⟨pa.toArray⟩] 33)).alloc (.cells #[.bool false, .string ⟨u1.toArray⟩, .string ⟨u2.toArray⟩, .int .i64 u3, .string ⟨u4.toArray⟩, .string ⟨u5.toArray⟩] 23)) (w.heap.size + 1) #[.bool false, .string ⟨u1.toArray⟩, .string ⟨u2.toArray⟩, .int .i64 u3, .string ⟨u4.toArray⟩, .string ⟨u5.toArray⟩] 23 := by have h := Blk.new (w.alloc (.cells #[.int .i64 12, .string ⟨t.toArray⟩, .string ⟨(x :: xs).toArray⟩, .string ⟨h.toArray⟩, .bool wd, .int .i64 p, .string ⟨pa.toArray⟩] 33)) #[.bool false, .string ⟨u1.toArray⟩, .string ⟨u2.toArray⟩, .int .i64 u3, .string ⟨u4.toArray⟩, .string ⟨u5.toArray⟩] 23; rw [World.size_alloc] at h; exact h
          replace BS := BS.reach (Reach.alloc (Reach.refl _) (.cells #[.bool false, .string ⟨u1.toArray⟩, .string ⟨u2.toArray⟩, .int .i64 u3, .string ⟨u4.toArray⟩, .string ⟨u5.toArray⟩] 23))
          have BO : Blk (((w.alloc (.cells #[.int .i64 12, .string ⟨t.toArray⟩, .string ⟨(x :: xs).toArray⟩, .string ⟨h.toArray⟩, .bool wd, .int .i64 p, .string ⟨pa.toArray⟩] 33)).alloc (.cells #[.bool false, .string ⟨u1.toArray⟩, .string ⟨u2.toArray⟩, .int .i64 u3, .string ⟨u4.toArray⟩, .string ⟨u5.toArray⟩] 23)).alloc (.cells #[.bool v0, .string ⟨v1.toArray⟩, .string ⟨v2.toArray⟩, .int .i64 v3, .string ⟨v4.toArray⟩, .string ⟨v5.toArray⟩] 23)) (w.heap.size + 2) #[.bool v0, .string ⟨v1.toArray⟩, .string ⟨v2.toArray⟩, .int .i64 v3, .string ⟨v4.toArray⟩, .string ⟨v5.toArray⟩] 23 := by have h := Blk.new ((w.alloc (.cells #[.int .i64 12, .string ⟨t.toArray⟩, .string ⟨(x :: xs).toArray⟩, .string ⟨h.toArray⟩, .bool wd, .int .i64 p, .string ⟨pa.toArray⟩] 33)).alloc (.cells #[.bool false, .string ⟨u1.toArray⟩, .string ⟨u2.toArray⟩, .int .i64 u3, .string ⟨u4.toArray⟩, .string ⟨u5.toArray⟩] 23)) #[.bool v0, .string ⟨v1.toArray⟩, .string ⟨v2.toArray⟩, .int .i64 v3, .string ⟨v4.toArray⟩, .string ⟨v5.toArray⟩] 23; rw [World.size_alloc, World.size_alloc] at h; exact h
          replace BS := BS.reach (Reach.alloc (Reach.refl _) (.cells #[.bool v0, .string ⟨v1.toArray⟩, .string ⟨v2.toArray⟩, .int .i64 v3, .string ⟨v4.toArray⟩, .string ⟨v5.toArray⟩] 23))
          replace BU := BU.reach (Reach.alloc (Reach.refl _) (.cells #[.bool v0, .string ⟨v1.toArray⟩, .string ⟨v2.toArray⟩, .int .i64 v3, .string ⟨v4.toArray⟩, .string ⟨v5.toArray⟩] 23))
          have Q : Reach w _ := Reach.alloc (Reach.alloc (Reach.alloc (Reach.refl w) (.cells #[.int .i64 12, .string ⟨t.toArray⟩, .string ⟨(x :: xs).toArray⟩, .string ⟨h.toArray⟩, .bool wd, .int .i64 p, .string ⟨pa.toArray⟩] 33)) (.cells #[.bool false, .string ⟨u1.toArray⟩, .string ⟨u2.toArray⟩, .int .i64 u3, .string ⟨u4.toArray⟩, .string ⟨u5.toArray⟩] 23)) (.cells #[.bool v0, .string ⟨v1.toArray⟩, .string ⟨v2.toArray⟩, .int .i64 v3, .string ⟨v4.toArray⟩, .string ⟨v5.toArray⟩] 23)
          generalize ((w.alloc (.cells #[.int .i64 12, .string ⟨t.toArray⟩, .string ⟨(x :: xs).toArray⟩, .string ⟨h.toArray⟩, .bool wd, .int .i64 p, .string ⟨pa.toArray⟩] 33)).alloc (.cells #[.bool false, .string ⟨u1.toArray⟩, .string ⟨u2.toArray⟩, .int .i64 u3, .string ⟨u4.toArray⟩, .string ⟨u5.toArray⟩] 23)).alloc (.cells #[.bool v0, .string ⟨v1.toArray⟩, .string ⟨v2.toArray⟩, .int .i64 v3, .string ⟨v4.toArray⟩, .string ⟨v5.toArray⟩] 23) = W0 at BS BU BO Q ⊢
          (with_reducible refine Calls.mono (HX.out _) ?_)
          rintro e W1 ⟨rfl, hr⟩
          replace BS := BS.reach hr
          replace BU := BU.reach hr
          replace BO := BO.reach hr
          replace Q := Reach.trans Q hr
          clear hr
          obtain ⟨x0_0, x0_1, x0_2, x0_3, x0_4, x0_5, x0_6⟩ := BS.seven
          have xl0 := BS.lt
          obtain ⟨x1_0, x1_1, x1_2, x1_3, x1_4, x1_5⟩ := BU.six
          have xl1 := BU.lt
          obtain ⟨x2_0, x2_1, x2_2, x2_3, x2_4, x2_5⟩ := BO.six
          have xl2 := BO.lt
          go_wp2_with (first | (go_at_call 20; (with_reducible refine Calls.mono (rscheme10_calls _ _ _) ?_); rintro e w' ⟨rfl, rfl⟩))
          clear x0_0 x0_1 x0_2 x0_3 x0_4 x0_5 x0_6 xl0 x1_0 x1_1 x1_2 x1_3 x1_4 x1_5 xl1 x2_0 x2_1 x2_2 x2_3 x2_4 x2_5 xl2
          (with_reducible refine Calls.mono (HH.out _) ?_)
          rintro e W2 ⟨rfl, hr⟩
          replace BS := BS.reach hr
          replace BU := BU.reach hr
          replace Q := Reach.trans Q hr
          clear hr
          obtain ⟨x0_0, x0_1, x0_2, x0_3, x0_4, x0_5, x0_6⟩ := BS.seven
          have xl0 := BS.lt
          obtain ⟨x1_0, x1_1, x1_2, x1_3, x1_4, x1_5⟩ := BU.six
          have xl1 := BU.lt
          go_wp2_with fail
          clear x0_0 x0_1 x0_2 x0_3 x0_4 x0_5 x0_6 xl0 x1_0 x1_1 x1_2 x1_3 x1_4 x1_5 xl1
          (with_reducible refine Calls.mono (HPO.out _) ?_)
          rintro e W3 ⟨rfl, hr⟩
          replace BS := BS.reach hr
          replace BU := BU.reach hr
          replace Q := Reach.trans Q hr
          clear hr
          obtain ⟨x0_0, x0_1, x0_2, x0_3, x0_4, x0_5, x0_6⟩ := BS.seven
          have xl0 := BS.lt
          obtain ⟨x1_0, x1_1, x1_2, x1_3, x1_4, x1_5⟩ := BU.six
          have xl1 := BU.lt
          go_wp2_with fail
          clear x0_0 x0_1 x0_2 x0_3 x0_4 x0_5 x0_6 xl0 x1_0 x1_1 x1_2 x1_3 x1_4 x1_5 xl1
          go_ret
          exact ⟨ret_bool (by simp), Q⟩
        · go_enter Tryz.func28, Tryz.ntmps28
          go_wp2_with fail
          have BS : Blk (w.alloc (.cells #[.int .i64 12, .string ⟨t.toArray⟩, .string ⟨(x :: xs).toArray⟩, .string ⟨h.toArray⟩, .bool wd, .int .i64 p, .string ⟨pa.toArray⟩] 33)) (w.heap.size) #[.int .i64 12, .string ⟨t.toArray⟩, .string ⟨(x :: xs).toArray⟩, .string ⟨h.toArray⟩, .bool wd, .int .i64 p, .string ⟨pa.toArray⟩] 33 := by have h := Blk.new w #[.int .i64 12, .string ⟨t.toArray⟩, .string ⟨(x :: xs).toArray⟩, .string ⟨h.toArray⟩, .bool wd, .int .i64 p, .string ⟨pa.toArray⟩] 33; exact h
          have BU : Blk ((w.alloc (.cells #[.int .i64 12, .string ⟨t.toArray⟩, .string ⟨(x :: xs).toArray⟩, .string ⟨h.toArray⟩, .bool wd, .int .i64 p, .string ⟨pa.toArray⟩] 33)).alloc (.cells #[.bool false, .string ⟨u1.toArray⟩, .string ⟨u2.toArray⟩, .int .i64 u3, .string ⟨u4.toArray⟩, .string ⟨u5.toArray⟩] 23)) (w.heap.size + 1) #[.bool false, .string ⟨u1.toArray⟩, .string ⟨u2.toArray⟩, .int .i64 u3, .string ⟨u4.toArray⟩, .string ⟨u5.toArray⟩] 23 := by have h := Blk.new (w.alloc (.cells #[.int .i64 12, .string ⟨t.toArray⟩, .string ⟨(x :: xs).toArray⟩, .string ⟨h.toArray⟩, .bool wd, .int .i64 p, .string ⟨pa.toArray⟩] 33)) #[.bool false, .string ⟨u1.toArray⟩, .string ⟨u2.toArray⟩, .int .i64 u3, .string ⟨u4.toArray⟩, .string ⟨u5.toArray⟩] 23; rw [World.size_alloc] at h; exact h
          replace BS := BS.reach (Reach.alloc (Reach.refl _) (.cells #[.bool false, .string ⟨u1.toArray⟩, .string ⟨u2.toArray⟩, .int .i64 u3, .string ⟨u4.toArray⟩, .string ⟨u5.toArray⟩] 23))
          have BO : Blk (((w.alloc (.cells #[.int .i64 12, .string ⟨t.toArray⟩, .string ⟨(x :: xs).toArray⟩, .string ⟨h.toArray⟩, .bool wd, .int .i64 p, .string ⟨pa.toArray⟩] 33)).alloc (.cells #[.bool false, .string ⟨u1.toArray⟩, .string ⟨u2.toArray⟩, .int .i64 u3, .string ⟨u4.toArray⟩, .string ⟨u5.toArray⟩] 23)).alloc (.cells #[.bool v0, .string ⟨v1.toArray⟩, .string ⟨v2.toArray⟩, .int .i64 v3, .string ⟨v4.toArray⟩, .string ⟨v5.toArray⟩] 23)) (w.heap.size + 2) #[.bool v0, .string ⟨v1.toArray⟩, .string ⟨v2.toArray⟩, .int .i64 v3, .string ⟨v4.toArray⟩, .string ⟨v5.toArray⟩] 23 := by have h := Blk.new ((w.alloc (.cells #[.int .i64 12, .string ⟨t.toArray⟩, .string ⟨(x :: xs).toArray⟩, .string ⟨h.toArray⟩, .bool wd, .int .i64 p, .string ⟨pa.toArray⟩] 33)).alloc (.cells #[.bool false, .string ⟨u1.toArray⟩, .string ⟨u2.toArray⟩, .int .i64 u3, .string ⟨u4.toArray⟩, .string ⟨u5.toArray⟩] 23)) #[.bool v0, .string ⟨v1.toArray⟩, .string ⟨v2.toArray⟩, .int .i64 v3, .string ⟨v4.toArray⟩, .string ⟨v5.toArray⟩] 23; rw [World.size_alloc, World.size_alloc] at h; exact h
          replace BS := BS.reach (Reach.alloc (Reach.refl _) (.cells #[.bool v0, .string ⟨v1.toArray⟩, .string ⟨v2.toArray⟩, .int .i64 v3, .string ⟨v4.toArray⟩, .string ⟨v5.toArray⟩] 23))
          replace BU := BU.reach (Reach.alloc (Reach.refl _) (.cells #[.bool v0, .string ⟨v1.toArray⟩, .string ⟨v2.toArray⟩, .int .i64 v3, .string ⟨v4.toArray⟩, .string ⟨v5.toArray⟩] 23))
          have Q : Reach w _ := Reach.alloc (Reach.alloc (Reach.alloc (Reach.refl w) (.cells #[.int .i64 12, .string ⟨t.toArray⟩, .string ⟨(x :: xs).toArray⟩, .string ⟨h.toArray⟩, .bool wd, .int .i64 p, .string ⟨pa.toArray⟩] 33)) (.cells #[.bool false, .string ⟨u1.toArray⟩, .string ⟨u2.toArray⟩, .int .i64 u3, .string ⟨u4.toArray⟩, .string ⟨u5.toArray⟩] 23)) (.cells #[.bool v0, .string ⟨v1.toArray⟩, .string ⟨v2.toArray⟩, .int .i64 v3, .string ⟨v4.toArray⟩, .string ⟨v5.toArray⟩] 23)
          generalize ((w.alloc (.cells #[.int .i64 12, .string ⟨t.toArray⟩, .string ⟨(x :: xs).toArray⟩, .string ⟨h.toArray⟩, .bool wd, .int .i64 p, .string ⟨pa.toArray⟩] 33)).alloc (.cells #[.bool false, .string ⟨u1.toArray⟩, .string ⟨u2.toArray⟩, .int .i64 u3, .string ⟨u4.toArray⟩, .string ⟨u5.toArray⟩] 23)).alloc (.cells #[.bool v0, .string ⟨v1.toArray⟩, .string ⟨v2.toArray⟩, .int .i64 v3, .string ⟨v4.toArray⟩, .string ⟨v5.toArray⟩] 23) = W0 at BS BU BO Q ⊢
          (with_reducible refine Calls.mono (HX.out _) ?_)
          rintro e W1 ⟨rfl, hr⟩
          replace BS := BS.reach hr
          replace BU := BU.reach hr
          replace BO := BO.reach hr
          replace Q := Reach.trans Q hr
          clear hr
          obtain ⟨x0_0, x0_1, x0_2, x0_3, x0_4, x0_5, x0_6⟩ := BS.seven
          have xl0 := BS.lt
          obtain ⟨x1_0, x1_1, x1_2, x1_3, x1_4, x1_5⟩ := BU.six
          have xl1 := BU.lt
          obtain ⟨x2_0, x2_1, x2_2, x2_3, x2_4, x2_5⟩ := BO.six
          have xl2 := BO.lt
          go_wp2_with (first | (go_at_call 20; (with_reducible refine Calls.mono (rscheme10_calls _ _ _) ?_); rintro e w' ⟨rfl, rfl⟩))
          clear x0_0 x0_1 x0_2 x0_3 x0_4 x0_5 x0_6 xl0 x1_0 x1_1 x1_2 x1_3 x1_4 x1_5 xl1 x2_0 x2_1 x2_2 x2_3 x2_4 x2_5 xl2
          (with_reducible refine Calls.mono (HH.out _) ?_)
          rintro e W2 ⟨rfl, hr⟩
          replace BS := BS.reach hr
          replace BU := BU.reach hr
          replace Q := Reach.trans Q hr
          clear hr
          obtain ⟨x0_0, x0_1, x0_2, x0_3, x0_4, x0_5, x0_6⟩ := BS.seven
          have xl0 := BS.lt
          obtain ⟨x1_0, x1_1, x1_2, x1_3, x1_4, x1_5⟩ := BU.six
          have xl1 := BU.lt
          go_wp2_with fail
          clear x0_0 x0_1 x0_2 x0_3 x0_4 x0_5 x0_6 xl0 x1_0 x1_1 x1_2 x1_3 x1_4 x1_5 xl1
          (with_reducible refine Calls.mono (HPO.out _) ?_)
          rintro e W3 ⟨rfl, hr⟩
          replace BS := BS.reach hr
          replace BU := BU.reach hr
          replace Q := Reach.trans Q hr
          clear hr
          obtain ⟨x0_0, x0_1, x0_2, x0_3, x0_4, x0_5, x0_6⟩ := BS.seven
          have xl0 := BS.lt
          obtain ⟨x1_0, x1_1, x1_2, x1_3, x1_4, x1_5⟩ := BU.six
          have xl1 := BU.lt
          go_wp2_with fail
          clear x0_0 x0_1 x0_2 x0_3 x0_4 x0_5 x0_6 xl0 x1_0 x1_1 x1_2 x1_3 x1_4 x1_5 xl1
          (with_reducible refine Calls.mono (HPA.out _) ?_)
          rintro e W4 ⟨rfl, hr⟩
          replace Q := Reach.trans Q hr
          clear hr
          go_wp2_with fail
          go_ret
          exact ⟨ret_bool (by simp), Q⟩
    exact hsplit _ rfl
  · have e : urlM ⟨k, t, s, h, wd, p, pa⟩ ⟨u0, u1, u2, u3, u4, u5⟩ ⟨v0, v1, v2, v3, v4, v5⟩ moved = false := by unfold urlM; simp [n1, n2, n3]
    rw [e]
    have g1 : (k == 11) = false := by simpa using n1
    have g2 : (k == 12) = false := by simpa using n2
    have g3 : (k == 2) = false := by simpa using n3
    clear n1 n2 n3 e hck
    go_enter Tryz.func28, Tryz.ntmps28
    go_wp2_with (first | (go_at_call 39; (with_reducible refine Calls.mono (HX.out _) ?_); rintro e w' ⟨rfl, hb⟩; obtain ⟨hc, hf, hz⟩ := Reach.facts hb) | ((with_reducible refine wp_region_quiet_below (by kernel_rfl) (by kernel_rfl) ?_); (repeat (any_goals (first | (go_big_quiet_step ((first | (go_at_call 39; with_reducible exact reg_reach (HX.out _))))) | (quiet_step ((first | (go_at_call 39; with_reducible exact reg_reach (HX.out _))))) | (refine wpQuiet_step (fun K hK => ?_); go_simp; split <;> (refine hK _ ?_; clear hK K))))); all_goals (refine wpQuiet_nil ?_; intro _ hw'; obtain ⟨⟨dq, osq⟩, hw''⟩ := hw'; subst hw'')))
    go_ret
    exact ⟨rfl, by (repeat (first | (with_reducible assumption) | (with_reducible exact Reach.refl _) | (with_reducible refine Reach.alloc ?_ _) | (with_reducible refine Reach.drew ?_) | (with_reducible refine Reach.drewN ?_ _) | (with_reducible refine Reach.grow ?_ _ _) | (with_reducible refine Reach.setCell ?_ ?_ _) | (with_reducible refine Reach.trans ?_ (by with_reducible assumption)) | (show _ ≤ Addr.block _; first | (exact Nat.le_refl _) | (show (_ : Nat) ≤ _; omega)) | (simp; done) | (simp; omega)))⟩
end Go.Proofs.YtbeaheicjopooaaGreatDoor
