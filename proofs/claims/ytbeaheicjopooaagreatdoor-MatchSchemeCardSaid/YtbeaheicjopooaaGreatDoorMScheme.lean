/- The law MatchScheme, walked. -/
import Derived.Test.YtbeaheicjopooaaGreatDoorProg
import Derived.Test.YtbeaheicjopooaaGreatDoorLets
import Derived.Test.YtbeaheicjopooaaGreatDoorRsRight
namespace Go.Proofs.YtbeaheicjopooaaGreatDoor
open Go.RowKit Go.Sort
attribute [local go_sem] get_mk mk_append mk_extract0 mk_extract_end mk_extract_cons empty_mk cell_grow frozen_grow size_grow
set_option maxRecDepth 100000 in
set_option maxHeartbeats 4000000 in
theorem matchscheme_calls (k : Int) (t s h : List UInt8) (wd : Bool) (p : Int) (pa : List UInt8) (u0 : Bool) (u1 u2 : List UInt8) (u3 : Int) (u4 u5 : List UInt8) (v0 : Bool) (v1 v2 : List UInt8) (v3 : Int) (v4 v5 : List UInt8) (moved : Bool) (w : World) (a1u : -9223372036854775808 ≤ u3) (a2u : u3 ≤ 9223372036854775807) (a1v : -9223372036854775808 ≤ v3) (a2v : v3 ≤ 9223372036854775807) (hE : Env w) (hK : KeptIs w) : Calls Tryz.prog 9 #[.agg #[.int .i64 k, .string ⟨t.toArray⟩, .string ⟨s.toArray⟩, .string ⟨h.toArray⟩, .bool wd, .int .i64 p, .string ⟨pa.toArray⟩], .agg #[.bool u0, .string ⟨u1.toArray⟩, .string ⟨u2.toArray⟩, .int .i64 u3, .string ⟨u4.toArray⟩, .string ⟨u5.toArray⟩], .agg #[.bool v0, .string ⟨v1.toArray⟩, .string ⟨v2.toArray⟩, .int .i64 v3, .string ⟨v4.toArray⟩, .string ⟨v5.toArray⟩], .bool moved] w fun e w' => e = .returned (.bool true) ∧ Reach w w' := by
  have HE := Lib.hid hE
  have HK := Lib.hid hK
  clear hE hK
  have hl := fun W => large_calls k t s h wd p pa u0 u1 u2 u3 u4 u5 v0 v1 v2 v3 v4 v5 W
  cases hbig : largeB t s h pa ⟨u0, u1, u2, u3, u4, u5⟩ ⟨v0, v1, v2, v3, v4, v5⟩
  rotate_left
  · rw [hbig] at hl
    have HL := Lib.hid hl
    clear hl hbig
    go_enter Tryz.func9, Tryz.ntmps9
    go_wp2_with fail
    have BS : Blk (w.alloc (.cells #[.int .i64 k, .string ⟨t.toArray⟩, .string ⟨s.toArray⟩, .string ⟨h.toArray⟩, .bool wd, .int .i64 p, .string ⟨pa.toArray⟩] 33)) (w.heap.size) #[.int .i64 k, .string ⟨t.toArray⟩, .string ⟨s.toArray⟩, .string ⟨h.toArray⟩, .bool wd, .int .i64 p, .string ⟨pa.toArray⟩] 33 := by have h := Blk.new w #[.int .i64 k, .string ⟨t.toArray⟩, .string ⟨s.toArray⟩, .string ⟨h.toArray⟩, .bool wd, .int .i64 p, .string ⟨pa.toArray⟩] 33; exact h
    have BU : Blk ((w.alloc (.cells #[.int .i64 k, .string ⟨t.toArray⟩, .string ⟨s.toArray⟩, .string ⟨h.toArray⟩, .bool wd, .int .i64 p, .string ⟨pa.toArray⟩] 33)).alloc (.cells #[.bool u0, .string ⟨u1.toArray⟩, .string ⟨u2.toArray⟩, .int .i64 u3, .string ⟨u4.toArray⟩, .string ⟨u5.toArray⟩] 23)) (w.heap.size + 1) #[.bool u0, .string ⟨u1.toArray⟩, .string ⟨u2.toArray⟩, .int .i64 u3, .string ⟨u4.toArray⟩, .string ⟨u5.toArray⟩] 23 := by have h := Blk.new (w.alloc (.cells #[.int .i64 k, .string ⟨t.toArray⟩, .string ⟨s.toArray⟩, .string ⟨h.toArray⟩, .bool wd, .int .i64 p, .string ⟨pa.toArray⟩] 33)) #[.bool u0, .string ⟨u1.toArray⟩, .string ⟨u2.toArray⟩, .int .i64 u3, .string ⟨u4.toArray⟩, .string ⟨u5.toArray⟩] 23; rw [World.size_alloc] at h; exact h
    replace BS := BS.reach (Reach.alloc (Reach.refl _) (.cells #[.bool u0, .string ⟨u1.toArray⟩, .string ⟨u2.toArray⟩, .int .i64 u3, .string ⟨u4.toArray⟩, .string ⟨u5.toArray⟩] 23))
    have BO : Blk (((w.alloc (.cells #[.int .i64 k, .string ⟨t.toArray⟩, .string ⟨s.toArray⟩, .string ⟨h.toArray⟩, .bool wd, .int .i64 p, .string ⟨pa.toArray⟩] 33)).alloc (.cells #[.bool u0, .string ⟨u1.toArray⟩, .string ⟨u2.toArray⟩, .int .i64 u3, .string ⟨u4.toArray⟩, .string ⟨u5.toArray⟩] 23)).alloc (.cells #[.bool v0, .string ⟨v1.toArray⟩, .string ⟨v2.toArray⟩, .int .i64 v3, .string ⟨v4.toArray⟩, .string ⟨v5.toArray⟩] 23)) (w.heap.size + 2) #[.bool v0, .string ⟨v1.toArray⟩, .string ⟨v2.toArray⟩, .int .i64 v3, .string ⟨v4.toArray⟩, .string ⟨v5.toArray⟩] 23 := by have h := Blk.new ((w.alloc (.cells #[.int .i64 k, .string ⟨t.toArray⟩, .string ⟨s.toArray⟩, .string ⟨h.toArray⟩, .bool wd, .int .i64 p, .string ⟨pa.toArray⟩] 33)).alloc (.cells #[.bool u0, .string ⟨u1.toArray⟩, .string ⟨u2.toArray⟩, .int .i64 u3, .string ⟨u4.toArray⟩, .string ⟨u5.toArray⟩] 23)) #[.bool v0, .string ⟨v1.toArray⟩, .string ⟨v2.toArray⟩, .int .i64 v3, .string ⟨v4.toArray⟩, .string ⟨v5.toArray⟩] 23; rw [World.size_alloc, World.size_alloc] at h; exact h
    replace BS := BS.reach (Reach.alloc (Reach.refl _) (.cells #[.bool v0, .string ⟨v1.toArray⟩, .string ⟨v2.toArray⟩, .int .i64 v3, .string ⟨v4.toArray⟩, .string ⟨v5.toArray⟩] 23))
    replace BU := BU.reach (Reach.alloc (Reach.refl _) (.cells #[.bool v0, .string ⟨v1.toArray⟩, .string ⟨v2.toArray⟩, .int .i64 v3, .string ⟨v4.toArray⟩, .string ⟨v5.toArray⟩] 23))
    have Q : Reach w _ := Reach.alloc (Reach.alloc (Reach.alloc (Reach.refl w) (.cells #[.int .i64 k, .string ⟨t.toArray⟩, .string ⟨s.toArray⟩, .string ⟨h.toArray⟩, .bool wd, .int .i64 p, .string ⟨pa.toArray⟩] 33)) (.cells #[.bool u0, .string ⟨u1.toArray⟩, .string ⟨u2.toArray⟩, .int .i64 u3, .string ⟨u4.toArray⟩, .string ⟨u5.toArray⟩] 23)) (.cells #[.bool v0, .string ⟨v1.toArray⟩, .string ⟨v2.toArray⟩, .int .i64 v3, .string ⟨v4.toArray⟩, .string ⟨v5.toArray⟩] 23)
    generalize ((w.alloc (.cells #[.int .i64 k, .string ⟨t.toArray⟩, .string ⟨s.toArray⟩, .string ⟨h.toArray⟩, .bool wd, .int .i64 p, .string ⟨pa.toArray⟩] 33)).alloc (.cells #[.bool u0, .string ⟨u1.toArray⟩, .string ⟨u2.toArray⟩, .int .i64 u3, .string ⟨u4.toArray⟩, .string ⟨u5.toArray⟩] 23)).alloc (.cells #[.bool v0, .string ⟨v1.toArray⟩, .string ⟨v2.toArray⟩, .int .i64 v3, .string ⟨v4.toArray⟩, .string ⟨v5.toArray⟩] 23) = W0 at BS BU BO Q ⊢
    (with_reducible refine Calls.mono (HL.out _) ?_)
    rintro e W1 ⟨rfl, hr⟩
    replace BS := BS.reach hr
    replace BU := BU.reach hr
    replace BO := BO.reach hr
    replace Q := Reach.trans Q hr
    clear hr
    go_wp2_with fail
    (with_reducible refine Calls.mono (matches_calls _ (Env.reach HE.out Q) (KeptIs.reach HK.out Q)) ?_)
    rintro e W2 ⟨rfl, hr⟩
    replace Q := Reach.trans Q hr
    clear hr
    go_wp2_with fail
    go_ret
    exact ⟨rfl, Q⟩
  rw [hbig] at hl
  have HL := Lib.hid hl
  clear hl
  unfold largeB at hbig
  simp only [Bool.or_eq_false_iff] at hbig
  obtain ⟨⟨hbs, hbu⟩, hbv⟩ := hbig
  have bs := bigS_no hbs
  have bu := bigN hbu
  have bv := bigN hbv
  clear hbs hbu hbv
  by_cases k12 : k = 12
  rotate_left
  · have g1 : (k != 12) = true := by simpa using k12
    clear k12 bs bu bv
    go_enter Tryz.func9, Tryz.ntmps9
    go_wp2_with fail
    have BS : Blk (w.alloc (.cells #[.int .i64 k, .string ⟨t.toArray⟩, .string ⟨s.toArray⟩, .string ⟨h.toArray⟩, .bool wd, .int .i64 p, .string ⟨pa.toArray⟩] 33)) (w.heap.size) #[.int .i64 k, .string ⟨t.toArray⟩, .string ⟨s.toArray⟩, .string ⟨h.toArray⟩, .bool wd, .int .i64 p, .string ⟨pa.toArray⟩] 33 := by have h := Blk.new w #[.int .i64 k, .string ⟨t.toArray⟩, .string ⟨s.toArray⟩, .string ⟨h.toArray⟩, .bool wd, .int .i64 p, .string ⟨pa.toArray⟩] 33; exact h
    have BU : Blk ((w.alloc (.cells #[.int .i64 k, .string ⟨t.toArray⟩, .string ⟨s.toArray⟩, .string ⟨h.toArray⟩, .bool wd, .int .i64 p, .string ⟨pa.toArray⟩] 33)).alloc (.cells #[.bool u0, .string ⟨u1.toArray⟩, .string ⟨u2.toArray⟩, .int .i64 u3, .string ⟨u4.toArray⟩, .string ⟨u5.toArray⟩] 23)) (w.heap.size + 1) #[.bool u0, .string ⟨u1.toArray⟩, .string ⟨u2.toArray⟩, .int .i64 u3, .string ⟨u4.toArray⟩, .string ⟨u5.toArray⟩] 23 := by have h := Blk.new (w.alloc (.cells #[.int .i64 k, .string ⟨t.toArray⟩, .string ⟨s.toArray⟩, .string ⟨h.toArray⟩, .bool wd, .int .i64 p, .string ⟨pa.toArray⟩] 33)) #[.bool u0, .string ⟨u1.toArray⟩, .string ⟨u2.toArray⟩, .int .i64 u3, .string ⟨u4.toArray⟩, .string ⟨u5.toArray⟩] 23; rw [World.size_alloc] at h; exact h
    replace BS := BS.reach (Reach.alloc (Reach.refl _) (.cells #[.bool u0, .string ⟨u1.toArray⟩, .string ⟨u2.toArray⟩, .int .i64 u3, .string ⟨u4.toArray⟩, .string ⟨u5.toArray⟩] 23))
    have BO : Blk (((w.alloc (.cells #[.int .i64 k, .string ⟨t.toArray⟩, .string ⟨s.toArray⟩, .string ⟨h.toArray⟩, .bool wd, .int .i64 p, .string ⟨pa.toArray⟩] 33)).alloc (.cells #[.bool u0, .string ⟨u1.toArray⟩, .string ⟨u2.toArray⟩, .int .i64 u3, .string ⟨u4.toArray⟩, .string ⟨u5.toArray⟩] 23)).alloc (.cells #[.bool v0, .string ⟨v1.toArray⟩, .string ⟨v2.toArray⟩, .int .i64 v3, .string ⟨v4.toArray⟩, .string ⟨v5.toArray⟩] 23)) (w.heap.size + 2) #[.bool v0, .string ⟨v1.toArray⟩, .string ⟨v2.toArray⟩, .int .i64 v3, .string ⟨v4.toArray⟩, .string ⟨v5.toArray⟩] 23 := by have h := Blk.new ((w.alloc (.cells #[.int .i64 k, .string ⟨t.toArray⟩, .string ⟨s.toArray⟩, .string ⟨h.toArray⟩, .bool wd, .int .i64 p, .string ⟨pa.toArray⟩] 33)).alloc (.cells #[.bool u0, .string ⟨u1.toArray⟩, .string ⟨u2.toArray⟩, .int .i64 u3, .string ⟨u4.toArray⟩, .string ⟨u5.toArray⟩] 23)) #[.bool v0, .string ⟨v1.toArray⟩, .string ⟨v2.toArray⟩, .int .i64 v3, .string ⟨v4.toArray⟩, .string ⟨v5.toArray⟩] 23; rw [World.size_alloc, World.size_alloc] at h; exact h
    replace BS := BS.reach (Reach.alloc (Reach.refl _) (.cells #[.bool v0, .string ⟨v1.toArray⟩, .string ⟨v2.toArray⟩, .int .i64 v3, .string ⟨v4.toArray⟩, .string ⟨v5.toArray⟩] 23))
    replace BU := BU.reach (Reach.alloc (Reach.refl _) (.cells #[.bool v0, .string ⟨v1.toArray⟩, .string ⟨v2.toArray⟩, .int .i64 v3, .string ⟨v4.toArray⟩, .string ⟨v5.toArray⟩] 23))
    have Q : Reach w _ := Reach.alloc (Reach.alloc (Reach.alloc (Reach.refl w) (.cells #[.int .i64 k, .string ⟨t.toArray⟩, .string ⟨s.toArray⟩, .string ⟨h.toArray⟩, .bool wd, .int .i64 p, .string ⟨pa.toArray⟩] 33)) (.cells #[.bool u0, .string ⟨u1.toArray⟩, .string ⟨u2.toArray⟩, .int .i64 u3, .string ⟨u4.toArray⟩, .string ⟨u5.toArray⟩] 23)) (.cells #[.bool v0, .string ⟨v1.toArray⟩, .string ⟨v2.toArray⟩, .int .i64 v3, .string ⟨v4.toArray⟩, .string ⟨v5.toArray⟩] 23)
    generalize ((w.alloc (.cells #[.int .i64 k, .string ⟨t.toArray⟩, .string ⟨s.toArray⟩, .string ⟨h.toArray⟩, .bool wd, .int .i64 p, .string ⟨pa.toArray⟩] 33)).alloc (.cells #[.bool u0, .string ⟨u1.toArray⟩, .string ⟨u2.toArray⟩, .int .i64 u3, .string ⟨u4.toArray⟩, .string ⟨u5.toArray⟩] 23)).alloc (.cells #[.bool v0, .string ⟨v1.toArray⟩, .string ⟨v2.toArray⟩, .int .i64 v3, .string ⟨v4.toArray⟩, .string ⟨v5.toArray⟩] 23) = W0 at BS BU BO Q ⊢
    (with_reducible refine Calls.mono (HL.out _) ?_)
    rintro e W1 ⟨rfl, hr⟩
    replace BS := BS.reach hr
    replace BO := BO.reach hr
    replace Q := Reach.trans Q hr
    clear hr
    obtain ⟨x0_0, x0_1, x0_2, x0_3, x0_4, x0_5, x0_6⟩ := BS.seven
    have xl0 := BS.lt
    obtain ⟨x1_0, x1_1, x1_2, x1_3, x1_4, x1_5⟩ := BO.six
    have xl1 := BO.lt
    go_wp2_with fail
    clear x0_0 x0_1 x0_2 x0_3 x0_4 x0_5 x0_6 xl0 x1_0 x1_1 x1_2 x1_3 x1_4 x1_5 xl1
    (with_reducible refine Calls.mono (matches_calls _ (Env.reach HE.out Q) (KeptIs.reach HK.out Q)) ?_)
    rintro e W2 ⟨rfl, hr⟩
    replace Q := Reach.trans Q hr
    clear hr
    go_wp2_with fail
    go_ret
    exact ⟨rfl, Q⟩
  subst k12
  cases s with
  | cons x xs =>
    clear bs bu bv
    go_enter Tryz.func9, Tryz.ntmps9
    go_wp2_with fail
    have BS : Blk (w.alloc (.cells #[.int .i64 12, .string ⟨t.toArray⟩, .string ⟨(x :: xs).toArray⟩, .string ⟨h.toArray⟩, .bool wd, .int .i64 p, .string ⟨pa.toArray⟩] 33)) (w.heap.size) #[.int .i64 12, .string ⟨t.toArray⟩, .string ⟨(x :: xs).toArray⟩, .string ⟨h.toArray⟩, .bool wd, .int .i64 p, .string ⟨pa.toArray⟩] 33 := by have h := Blk.new w #[.int .i64 12, .string ⟨t.toArray⟩, .string ⟨(x :: xs).toArray⟩, .string ⟨h.toArray⟩, .bool wd, .int .i64 p, .string ⟨pa.toArray⟩] 33; exact h
    have BU : Blk ((w.alloc (.cells #[.int .i64 12, .string ⟨t.toArray⟩, .string ⟨(x :: xs).toArray⟩, .string ⟨h.toArray⟩, .bool wd, .int .i64 p, .string ⟨pa.toArray⟩] 33)).alloc (.cells #[.bool u0, .string ⟨u1.toArray⟩, .string ⟨u2.toArray⟩, .int .i64 u3, .string ⟨u4.toArray⟩, .string ⟨u5.toArray⟩] 23)) (w.heap.size + 1) #[.bool u0, .string ⟨u1.toArray⟩, .string ⟨u2.toArray⟩, .int .i64 u3, .string ⟨u4.toArray⟩, .string ⟨u5.toArray⟩] 23 := by have h := Blk.new (w.alloc (.cells #[.int .i64 12, .string ⟨t.toArray⟩, .string ⟨(x :: xs).toArray⟩, .string ⟨h.toArray⟩, .bool wd, .int .i64 p, .string ⟨pa.toArray⟩] 33)) #[.bool u0, .string ⟨u1.toArray⟩, .string ⟨u2.toArray⟩, .int .i64 u3, .string ⟨u4.toArray⟩, .string ⟨u5.toArray⟩] 23; rw [World.size_alloc] at h; exact h
    replace BS := BS.reach (Reach.alloc (Reach.refl _) (.cells #[.bool u0, .string ⟨u1.toArray⟩, .string ⟨u2.toArray⟩, .int .i64 u3, .string ⟨u4.toArray⟩, .string ⟨u5.toArray⟩] 23))
    have BO : Blk (((w.alloc (.cells #[.int .i64 12, .string ⟨t.toArray⟩, .string ⟨(x :: xs).toArray⟩, .string ⟨h.toArray⟩, .bool wd, .int .i64 p, .string ⟨pa.toArray⟩] 33)).alloc (.cells #[.bool u0, .string ⟨u1.toArray⟩, .string ⟨u2.toArray⟩, .int .i64 u3, .string ⟨u4.toArray⟩, .string ⟨u5.toArray⟩] 23)).alloc (.cells #[.bool v0, .string ⟨v1.toArray⟩, .string ⟨v2.toArray⟩, .int .i64 v3, .string ⟨v4.toArray⟩, .string ⟨v5.toArray⟩] 23)) (w.heap.size + 2) #[.bool v0, .string ⟨v1.toArray⟩, .string ⟨v2.toArray⟩, .int .i64 v3, .string ⟨v4.toArray⟩, .string ⟨v5.toArray⟩] 23 := by have h := Blk.new ((w.alloc (.cells #[.int .i64 12, .string ⟨t.toArray⟩, .string ⟨(x :: xs).toArray⟩, .string ⟨h.toArray⟩, .bool wd, .int .i64 p, .string ⟨pa.toArray⟩] 33)).alloc (.cells #[.bool u0, .string ⟨u1.toArray⟩, .string ⟨u2.toArray⟩, .int .i64 u3, .string ⟨u4.toArray⟩, .string ⟨u5.toArray⟩] 23)) #[.bool v0, .string ⟨v1.toArray⟩, .string ⟨v2.toArray⟩, .int .i64 v3, .string ⟨v4.toArray⟩, .string ⟨v5.toArray⟩] 23; rw [World.size_alloc, World.size_alloc] at h; exact h
    replace BS := BS.reach (Reach.alloc (Reach.refl _) (.cells #[.bool v0, .string ⟨v1.toArray⟩, .string ⟨v2.toArray⟩, .int .i64 v3, .string ⟨v4.toArray⟩, .string ⟨v5.toArray⟩] 23))
    replace BU := BU.reach (Reach.alloc (Reach.refl _) (.cells #[.bool v0, .string ⟨v1.toArray⟩, .string ⟨v2.toArray⟩, .int .i64 v3, .string ⟨v4.toArray⟩, .string ⟨v5.toArray⟩] 23))
    have Q : Reach w _ := Reach.alloc (Reach.alloc (Reach.alloc (Reach.refl w) (.cells #[.int .i64 12, .string ⟨t.toArray⟩, .string ⟨(x :: xs).toArray⟩, .string ⟨h.toArray⟩, .bool wd, .int .i64 p, .string ⟨pa.toArray⟩] 33)) (.cells #[.bool u0, .string ⟨u1.toArray⟩, .string ⟨u2.toArray⟩, .int .i64 u3, .string ⟨u4.toArray⟩, .string ⟨u5.toArray⟩] 23)) (.cells #[.bool v0, .string ⟨v1.toArray⟩, .string ⟨v2.toArray⟩, .int .i64 v3, .string ⟨v4.toArray⟩, .string ⟨v5.toArray⟩] 23)
    generalize ((w.alloc (.cells #[.int .i64 12, .string ⟨t.toArray⟩, .string ⟨(x :: xs).toArray⟩, .string ⟨h.toArray⟩, .bool wd, .int .i64 p, .string ⟨pa.toArray⟩] 33)).alloc (.cells #[.bool u0, .string ⟨u1.toArray⟩, .string ⟨u2.toArray⟩, .int .i64 u3, .string ⟨u4.toArray⟩, .string ⟨u5.toArray⟩] 23)).alloc (.cells #[.bool v0, .string ⟨v1.toArray⟩, .string ⟨v2.toArray⟩, .int .i64 v3, .string ⟨v4.toArray⟩, .string ⟨v5.toArray⟩] 23) = W0 at BS BU BO Q ⊢
    (with_reducible refine Calls.mono (HL.out _) ?_)
    rintro e W1 ⟨rfl, hr⟩
    replace BS := BS.reach hr
    replace BO := BO.reach hr
    replace Q := Reach.trans Q hr
    clear hr
    obtain ⟨x0_0, x0_1, x0_2, x0_3, x0_4, x0_5, x0_6⟩ := BS.seven
    have xl0 := BS.lt
    obtain ⟨x1_0, x1_1, x1_2, x1_3, x1_4, x1_5⟩ := BO.six
    have xl1 := BO.lt
    go_wp2_with fail
    clear x0_0 x0_1 x0_2 x0_3 x0_4 x0_5 x0_6 xl0 x1_0 x1_1 x1_2 x1_3 x1_4 x1_5 xl1
    (with_reducible refine Calls.mono (matches_calls _ (Env.reach HE.out Q) (KeptIs.reach HK.out Q)) ?_)
    rintro e W2 ⟨rfl, hr⟩
    replace Q := Reach.trans Q hr
    clear hr
    go_wp2_with fail
    go_ret
    exact ⟨rfl, Q⟩
  | nil =>
    cases v1 with
    | nil =>
      clear bs bu bv
      go_enter Tryz.func9, Tryz.ntmps9
      go_wp2_with fail
      have BS : Blk (w.alloc (.cells #[.int .i64 12, .string ⟨t.toArray⟩, .string ⟨#[]⟩, .string ⟨h.toArray⟩, .bool wd, .int .i64 p, .string ⟨pa.toArray⟩] 33)) (w.heap.size) #[.int .i64 12, .string ⟨t.toArray⟩, .string ⟨#[]⟩, .string ⟨h.toArray⟩, .bool wd, .int .i64 p, .string ⟨pa.toArray⟩] 33 := by have h := Blk.new w #[.int .i64 12, .string ⟨t.toArray⟩, .string ⟨#[]⟩, .string ⟨h.toArray⟩, .bool wd, .int .i64 p, .string ⟨pa.toArray⟩] 33; exact h
      have BU : Blk ((w.alloc (.cells #[.int .i64 12, .string ⟨t.toArray⟩, .string ⟨#[]⟩, .string ⟨h.toArray⟩, .bool wd, .int .i64 p, .string ⟨pa.toArray⟩] 33)).alloc (.cells #[.bool u0, .string ⟨u1.toArray⟩, .string ⟨u2.toArray⟩, .int .i64 u3, .string ⟨u4.toArray⟩, .string ⟨u5.toArray⟩] 23)) (w.heap.size + 1) #[.bool u0, .string ⟨u1.toArray⟩, .string ⟨u2.toArray⟩, .int .i64 u3, .string ⟨u4.toArray⟩, .string ⟨u5.toArray⟩] 23 := by have h := Blk.new (w.alloc (.cells #[.int .i64 12, .string ⟨t.toArray⟩, .string ⟨#[]⟩, .string ⟨h.toArray⟩, .bool wd, .int .i64 p, .string ⟨pa.toArray⟩] 33)) #[.bool u0, .string ⟨u1.toArray⟩, .string ⟨u2.toArray⟩, .int .i64 u3, .string ⟨u4.toArray⟩, .string ⟨u5.toArray⟩] 23; rw [World.size_alloc] at h; exact h
      replace BS := BS.reach (Reach.alloc (Reach.refl _) (.cells #[.bool u0, .string ⟨u1.toArray⟩, .string ⟨u2.toArray⟩, .int .i64 u3, .string ⟨u4.toArray⟩, .string ⟨u5.toArray⟩] 23))
      have BO : Blk (((w.alloc (.cells #[.int .i64 12, .string ⟨t.toArray⟩, .string ⟨#[]⟩, .string ⟨h.toArray⟩, .bool wd, .int .i64 p, .string ⟨pa.toArray⟩] 33)).alloc (.cells #[.bool u0, .string ⟨u1.toArray⟩, .string ⟨u2.toArray⟩, .int .i64 u3, .string ⟨u4.toArray⟩, .string ⟨u5.toArray⟩] 23)).alloc (.cells #[.bool v0, .string ⟨#[]⟩, .string ⟨v2.toArray⟩, .int .i64 v3, .string ⟨v4.toArray⟩, .string ⟨v5.toArray⟩] 23)) (w.heap.size + 2) #[.bool v0, .string ⟨#[]⟩, .string ⟨v2.toArray⟩, .int .i64 v3, .string ⟨v4.toArray⟩, .string ⟨v5.toArray⟩] 23 := by have h := Blk.new ((w.alloc (.cells #[.int .i64 12, .string ⟨t.toArray⟩, .string ⟨#[]⟩, .string ⟨h.toArray⟩, .bool wd, .int .i64 p, .string ⟨pa.toArray⟩] 33)).alloc (.cells #[.bool u0, .string ⟨u1.toArray⟩, .string ⟨u2.toArray⟩, .int .i64 u3, .string ⟨u4.toArray⟩, .string ⟨u5.toArray⟩] 23)) #[.bool v0, .string ⟨#[]⟩, .string ⟨v2.toArray⟩, .int .i64 v3, .string ⟨v4.toArray⟩, .string ⟨v5.toArray⟩] 23; rw [World.size_alloc, World.size_alloc] at h; exact h
      replace BS := BS.reach (Reach.alloc (Reach.refl _) (.cells #[.bool v0, .string ⟨#[]⟩, .string ⟨v2.toArray⟩, .int .i64 v3, .string ⟨v4.toArray⟩, .string ⟨v5.toArray⟩] 23))
      replace BU := BU.reach (Reach.alloc (Reach.refl _) (.cells #[.bool v0, .string ⟨#[]⟩, .string ⟨v2.toArray⟩, .int .i64 v3, .string ⟨v4.toArray⟩, .string ⟨v5.toArray⟩] 23))
      have Q : Reach w _ := Reach.alloc (Reach.alloc (Reach.alloc (Reach.refl w) (.cells #[.int .i64 12, .string ⟨t.toArray⟩, .string ⟨#[]⟩, .string ⟨h.toArray⟩, .bool wd, .int .i64 p, .string ⟨pa.toArray⟩] 33)) (.cells #[.bool u0, .string ⟨u1.toArray⟩, .string ⟨u2.toArray⟩, .int .i64 u3, .string ⟨u4.toArray⟩, .string ⟨u5.toArray⟩] 23)) (.cells #[.bool v0, .string ⟨#[]⟩, .string ⟨v2.toArray⟩, .int .i64 v3, .string ⟨v4.toArray⟩, .string ⟨v5.toArray⟩] 23)
      generalize ((w.alloc (.cells #[.int .i64 12, .string ⟨t.toArray⟩, .string ⟨#[]⟩, .string ⟨h.toArray⟩, .bool wd, .int .i64 p, .string ⟨pa.toArray⟩] 33)).alloc (.cells #[.bool u0, .string ⟨u1.toArray⟩, .string ⟨u2.toArray⟩, .int .i64 u3, .string ⟨u4.toArray⟩, .string ⟨u5.toArray⟩] 23)).alloc (.cells #[.bool v0, .string ⟨#[]⟩, .string ⟨v2.toArray⟩, .int .i64 v3, .string ⟨v4.toArray⟩, .string ⟨v5.toArray⟩] 23) = W0 at BS BU BO Q ⊢
      (with_reducible refine Calls.mono (HL.out _) ?_)
      rintro e W1 ⟨rfl, hr⟩
      replace BS := BS.reach hr
      replace BO := BO.reach hr
      replace Q := Reach.trans Q hr
      clear hr
      obtain ⟨x0_0, x0_1, x0_2, x0_3, x0_4, x0_5, x0_6⟩ := BS.seven
      have xl0 := BS.lt
      obtain ⟨x1_0, x1_1, x1_2, x1_3, x1_4, x1_5⟩ := BO.six
      have xl1 := BO.lt
      go_wp2_with fail
      clear x0_0 x0_1 x0_2 x0_3 x0_4 x0_5 x0_6 xl0 x1_0 x1_1 x1_2 x1_3 x1_4 x1_5 xl1
      (with_reducible refine Calls.mono (matches_calls _ (Env.reach HE.out Q) (KeptIs.reach HK.out Q)) ?_)
      rintro e W2 ⟨rfl, hr⟩
      replace Q := Reach.trans Q hr
      clear hr
      go_wp2_with fail
      go_ret
      exact ⟨rfl, Q⟩
    | cons y ys =>
      have he := match_scheme ⟨12, t, [], h, wd, p, pa⟩ ⟨u0, u1, u2, u3, u4, u5⟩ ⟨v0, y :: ys, v2, v3, v4, v5⟩ moved rfl rfl (by simp)
      simp only at he
      have ha := fun W (hE : Env W) => murl_calls 12 t [] h wd p pa u0 u1 u2 u3 u4 u5 v0 (y :: ys) v2 v3 v4 v5 moved W (by simp) (by omega) (by omega) a1u a2u (by omega) (by omega) (by omega) (by omega)  a1v a2v (by omega) (by omega) (by omega) (by omega)  hE
      have hc := fun W (hE : Env W) => murl_calls 12 t (y :: ys) h wd p pa u0 u1 u2 u3 u4 u5 v0 (y :: ys) v2 v3 v4 v5 moved W (by omega) (by omega) (by omega) a1u a2u (by omega) (by omega) (by omega) (by omega)  a1v a2v (by omega) (by omega) (by omega) (by omega)  hE
      rw [← he] at hc
      clear bs bu bv he
      generalize urlM ⟨12, t, [], h, wd, p, pa⟩ ⟨u0, u1, u2, u3, u4, u5⟩ ⟨v0, y :: ys, v2, v3, v4, v5⟩ moved = x at *
      have HA := Lib.hid ha
      have HC := Lib.hid hc
      clear ha hc
      cases x
      all_goals
        go_enter Tryz.func9, Tryz.ntmps9
        go_wp2_with fail
        have BS : Blk (w.alloc (.cells #[.int .i64 12, .string ⟨t.toArray⟩, .string ⟨#[]⟩, .string ⟨h.toArray⟩, .bool wd, .int .i64 p, .string ⟨pa.toArray⟩] 33)) (w.heap.size) #[.int .i64 12, .string ⟨t.toArray⟩, .string ⟨#[]⟩, .string ⟨h.toArray⟩, .bool wd, .int .i64 p, .string ⟨pa.toArray⟩] 33 := by have h := Blk.new w #[.int .i64 12, .string ⟨t.toArray⟩, .string ⟨#[]⟩, .string ⟨h.toArray⟩, .bool wd, .int .i64 p, .string ⟨pa.toArray⟩] 33; exact h
        have BU : Blk ((w.alloc (.cells #[.int .i64 12, .string ⟨t.toArray⟩, .string ⟨#[]⟩, .string ⟨h.toArray⟩, .bool wd, .int .i64 p, .string ⟨pa.toArray⟩] 33)).alloc (.cells #[.bool u0, .string ⟨u1.toArray⟩, .string ⟨u2.toArray⟩, .int .i64 u3, .string ⟨u4.toArray⟩, .string ⟨u5.toArray⟩] 23)) (w.heap.size + 1) #[.bool u0, .string ⟨u1.toArray⟩, .string ⟨u2.toArray⟩, .int .i64 u3, .string ⟨u4.toArray⟩, .string ⟨u5.toArray⟩] 23 := by have h := Blk.new (w.alloc (.cells #[.int .i64 12, .string ⟨t.toArray⟩, .string ⟨#[]⟩, .string ⟨h.toArray⟩, .bool wd, .int .i64 p, .string ⟨pa.toArray⟩] 33)) #[.bool u0, .string ⟨u1.toArray⟩, .string ⟨u2.toArray⟩, .int .i64 u3, .string ⟨u4.toArray⟩, .string ⟨u5.toArray⟩] 23; rw [World.size_alloc] at h; exact h
        replace BS := BS.reach (Reach.alloc (Reach.refl _) (.cells #[.bool u0, .string ⟨u1.toArray⟩, .string ⟨u2.toArray⟩, .int .i64 u3, .string ⟨u4.toArray⟩, .string ⟨u5.toArray⟩] 23))
        have BO : Blk (((w.alloc (.cells #[.int .i64 12, .string ⟨t.toArray⟩, .string ⟨#[]⟩, .string ⟨h.toArray⟩, .bool wd, .int .i64 p, .string ⟨pa.toArray⟩] 33)).alloc (.cells #[.bool u0, .string ⟨u1.toArray⟩, .string ⟨u2.toArray⟩, .int .i64 u3, .string ⟨u4.toArray⟩, .string ⟨u5.toArray⟩] 23)).alloc (.cells #[.bool v0, .string ⟨(y :: ys).toArray⟩, .string ⟨v2.toArray⟩, .int .i64 v3, .string ⟨v4.toArray⟩, .string ⟨v5.toArray⟩] 23)) (w.heap.size + 2) #[.bool v0, .string ⟨(y :: ys).toArray⟩, .string ⟨v2.toArray⟩, .int .i64 v3, .string ⟨v4.toArray⟩, .string ⟨v5.toArray⟩] 23 := by have h := Blk.new ((w.alloc (.cells #[.int .i64 12, .string ⟨t.toArray⟩, .string ⟨#[]⟩, .string ⟨h.toArray⟩, .bool wd, .int .i64 p, .string ⟨pa.toArray⟩] 33)).alloc (.cells #[.bool u0, .string ⟨u1.toArray⟩, .string ⟨u2.toArray⟩, .int .i64 u3, .string ⟨u4.toArray⟩, .string ⟨u5.toArray⟩] 23)) #[.bool v0, .string ⟨(y :: ys).toArray⟩, .string ⟨v2.toArray⟩, .int .i64 v3, .string ⟨v4.toArray⟩, .string ⟨v5.toArray⟩] 23; rw [World.size_alloc, World.size_alloc] at h; exact h
        replace BS := BS.reach (Reach.alloc (Reach.refl _) (.cells #[.bool v0, .string ⟨(y :: ys).toArray⟩, .string ⟨v2.toArray⟩, .int .i64 v3, .string ⟨v4.toArray⟩, .string ⟨v5.toArray⟩] 23))
        replace BU := BU.reach (Reach.alloc (Reach.refl _) (.cells #[.bool v0, .string ⟨(y :: ys).toArray⟩, .string ⟨v2.toArray⟩, .int .i64 v3, .string ⟨v4.toArray⟩, .string ⟨v5.toArray⟩] 23))
        have Q : Reach w _ := Reach.alloc (Reach.alloc (Reach.alloc (Reach.refl w) (.cells #[.int .i64 12, .string ⟨t.toArray⟩, .string ⟨#[]⟩, .string ⟨h.toArray⟩, .bool wd, .int .i64 p, .string ⟨pa.toArray⟩] 33)) (.cells #[.bool u0, .string ⟨u1.toArray⟩, .string ⟨u2.toArray⟩, .int .i64 u3, .string ⟨u4.toArray⟩, .string ⟨u5.toArray⟩] 23)) (.cells #[.bool v0, .string ⟨(y :: ys).toArray⟩, .string ⟨v2.toArray⟩, .int .i64 v3, .string ⟨v4.toArray⟩, .string ⟨v5.toArray⟩] 23)
        generalize ((w.alloc (.cells #[.int .i64 12, .string ⟨t.toArray⟩, .string ⟨#[]⟩, .string ⟨h.toArray⟩, .bool wd, .int .i64 p, .string ⟨pa.toArray⟩] 33)).alloc (.cells #[.bool u0, .string ⟨u1.toArray⟩, .string ⟨u2.toArray⟩, .int .i64 u3, .string ⟨u4.toArray⟩, .string ⟨u5.toArray⟩] 23)).alloc (.cells #[.bool v0, .string ⟨(y :: ys).toArray⟩, .string ⟨v2.toArray⟩, .int .i64 v3, .string ⟨v4.toArray⟩, .string ⟨v5.toArray⟩] 23) = W0 at BS BU BO Q ⊢
        (with_reducible refine Calls.mono (HL.out _) ?_)
        rintro e W1 ⟨rfl, hr⟩
        replace BS := BS.reach hr
        replace BU := BU.reach hr
        replace BO := BO.reach hr
        replace Q := Reach.trans Q hr
        clear hr
        obtain ⟨x0_0, x0_1, x0_2, x0_3, x0_4, x0_5, x0_6⟩ := BS.seven
        have xl0 := BS.lt
        obtain ⟨x1_0, x1_1, x1_2, x1_3, x1_4, x1_5⟩ := BO.six
        have xl1 := BO.lt
        go_wp2_with fail
        clear x0_0 x0_1 x0_2 x0_3 x0_4 x0_5 x0_6 xl0 x1_0 x1_1 x1_2 x1_3 x1_4 x1_5 xl1
        have BT : Blk (W1.alloc (.cells #[.int .i64 12, .string ⟨t.toArray⟩, .string ⟨(y :: ys).toArray⟩, .string ⟨h.toArray⟩, .bool wd, .int .i64 p, .string ⟨pa.toArray⟩] 33)) (W1.heap.size) #[.int .i64 12, .string ⟨t.toArray⟩, .string ⟨(y :: ys).toArray⟩, .string ⟨h.toArray⟩, .bool wd, .int .i64 p, .string ⟨pa.toArray⟩] 33 := by have h := Blk.new W1 #[.int .i64 12, .string ⟨t.toArray⟩, .string ⟨(y :: ys).toArray⟩, .string ⟨h.toArray⟩, .bool wd, .int .i64 p, .string ⟨pa.toArray⟩] 33; exact h
        replace BS := BS.reach (Reach.alloc (Reach.refl _) (.cells #[.int .i64 12, .string ⟨t.toArray⟩, .string ⟨(y :: ys).toArray⟩, .string ⟨h.toArray⟩, .bool wd, .int .i64 p, .string ⟨pa.toArray⟩] 33))
        replace BU := BU.reach (Reach.alloc (Reach.refl _) (.cells #[.int .i64 12, .string ⟨t.toArray⟩, .string ⟨(y :: ys).toArray⟩, .string ⟨h.toArray⟩, .bool wd, .int .i64 p, .string ⟨pa.toArray⟩] 33))
        replace BO := BO.reach (Reach.alloc (Reach.refl _) (.cells #[.int .i64 12, .string ⟨t.toArray⟩, .string ⟨(y :: ys).toArray⟩, .string ⟨h.toArray⟩, .bool wd, .int .i64 p, .string ⟨pa.toArray⟩] 33))
        replace Q := Reach.alloc Q (.cells #[.int .i64 12, .string ⟨t.toArray⟩, .string ⟨(y :: ys).toArray⟩, .string ⟨h.toArray⟩, .bool wd, .int .i64 p, .string ⟨pa.toArray⟩] 33)
        generalize W1.alloc (.cells #[.int .i64 12, .string ⟨t.toArray⟩, .string ⟨(y :: ys).toArray⟩, .string ⟨h.toArray⟩, .bool wd, .int .i64 p, .string ⟨pa.toArray⟩] 33) = X1 at BS BU BO BT Q ⊢
        generalize W1.heap.size = nBT at *
        obtain ⟨x0_0, x0_1, x0_2, x0_3, x0_4, x0_5, x0_6⟩ := BS.seven
        have xl0 := BS.lt
        obtain ⟨x1_0, x1_1, x1_2, x1_3, x1_4, x1_5⟩ := BU.six
        have xl1 := BU.lt
        obtain ⟨x2_0, x2_1, x2_2, x2_3, x2_4, x2_5⟩ := BO.six
        have xl2 := BO.lt
        obtain ⟨x3_0, x3_1, x3_2, x3_3, x3_4, x3_5, x3_6⟩ := BT.seven
        have xl3 := BT.lt
        clear BS BU BO BT
        go_wp2_with (first | (go_at_call 18; (with_reducible refine Calls.mono (matches_calls _ (Env.reach HE.out (by (repeat (first | (with_reducible assumption) | (with_reducible exact Reach.refl _) | (with_reducible refine Reach.alloc ?_ _) | (with_reducible refine Reach.drew ?_) | (with_reducible refine Reach.drewN ?_ _) | (with_reducible refine Reach.grow ?_ _ _) | (with_reducible refine Reach.setCell ?_ ?_ _) | (with_reducible refine Reach.trans ?_ (by with_reducible assumption)) | (show _ ≤ Addr.block _; first | (exact Nat.le_refl _) | (show (_ : Nat) ≤ _; omega)) | (simp; done) | (simp; omega))))) (KeptIs.reach HK.out (by (repeat (first | (with_reducible assumption) | (with_reducible exact Reach.refl _) | (with_reducible refine Reach.alloc ?_ _) | (with_reducible refine Reach.drew ?_) | (with_reducible refine Reach.drewN ?_ _) | (with_reducible refine Reach.grow ?_ _ _) | (with_reducible refine Reach.setCell ?_ ?_ _) | (with_reducible refine Reach.trans ?_ (by with_reducible assumption)) | (show _ ≤ Addr.block _; first | (exact Nat.le_refl _) | (show (_ : Nat) ≤ _; omega)) | (simp; done) | (simp; omega)))))) ?_); rintro e w' ⟨rfl, hb⟩; obtain ⟨hc, hf, hz⟩ := Reach.facts hb) | (go_at_call 27; (with_reducible refine Calls.mono (HA.out _ (Env.reach HE.out (by (repeat (first | (with_reducible assumption) | (with_reducible exact Reach.refl _) | (with_reducible refine Reach.alloc ?_ _) | (with_reducible refine Reach.drew ?_) | (with_reducible refine Reach.drewN ?_ _) | (with_reducible refine Reach.grow ?_ _ _) | (with_reducible refine Reach.setCell ?_ ?_ _) | (with_reducible refine Reach.trans ?_ (by with_reducible assumption)) | (show _ ≤ Addr.block _; first | (exact Nat.le_refl _) | (show (_ : Nat) ≤ _; omega)) | (simp; done) | (simp; omega)))))) ?_); rintro e w' ⟨rfl, hb⟩; obtain ⟨hc, hf, hz⟩ := Reach.facts hb) | (go_at_call 27; (with_reducible refine Calls.mono (HC.out _ (Env.reach HE.out (by (repeat (first | (with_reducible assumption) | (with_reducible exact Reach.refl _) | (with_reducible refine Reach.alloc ?_ _) | (with_reducible refine Reach.drew ?_) | (with_reducible refine Reach.drewN ?_ _) | (with_reducible refine Reach.grow ?_ _ _) | (with_reducible refine Reach.setCell ?_ ?_ _) | (with_reducible refine Reach.trans ?_ (by with_reducible assumption)) | (show _ ≤ Addr.block _; first | (exact Nat.le_refl _) | (show (_ : Nat) ≤ _; omega)) | (simp; done) | (simp; omega)))))) ?_); rintro e w' ⟨rfl, hb⟩; obtain ⟨hc, hf, hz⟩ := Reach.facts hb) | ((with_reducible refine wp_region_quiet_below (by kernel_rfl) (by kernel_rfl) ?_); (repeat (any_goals (first | (go_big_quiet_step ((first | (go_at_call 18; with_reducible exact reg_reach (matches_calls _ (Env.reach HE.out (by (repeat (first | (with_reducible assumption) | (with_reducible exact Reach.refl _) | (with_reducible refine Reach.alloc ?_ _) | (with_reducible refine Reach.drew ?_) | (with_reducible refine Reach.drewN ?_ _) | (with_reducible refine Reach.grow ?_ _ _) | (with_reducible refine Reach.setCell ?_ ?_ _) | (with_reducible refine Reach.trans ?_ (by with_reducible assumption)) | (show _ ≤ Addr.block _; first | (exact Nat.le_refl _) | (show (_ : Nat) ≤ _; omega)) | (simp; done) | (simp; omega))))) (KeptIs.reach HK.out (by (repeat (first | (with_reducible assumption) | (with_reducible exact Reach.refl _) | (with_reducible refine Reach.alloc ?_ _) | (with_reducible refine Reach.drew ?_) | (with_reducible refine Reach.drewN ?_ _) | (with_reducible refine Reach.grow ?_ _ _) | (with_reducible refine Reach.setCell ?_ ?_ _) | (with_reducible refine Reach.trans ?_ (by with_reducible assumption)) | (show _ ≤ Addr.block _; first | (exact Nat.le_refl _) | (show (_ : Nat) ≤ _; omega)) | (simp; done) | (simp; omega))))))) | (go_at_call 27; with_reducible exact reg_reach (HA.out _ (Env.reach HE.out (by (repeat (first | (with_reducible assumption) | (with_reducible exact Reach.refl _) | (with_reducible refine Reach.alloc ?_ _) | (with_reducible refine Reach.drew ?_) | (with_reducible refine Reach.drewN ?_ _) | (with_reducible refine Reach.grow ?_ _ _) | (with_reducible refine Reach.setCell ?_ ?_ _) | (with_reducible refine Reach.trans ?_ (by with_reducible assumption)) | (show _ ≤ Addr.block _; first | (exact Nat.le_refl _) | (show (_ : Nat) ≤ _; omega)) | (simp; done) | (simp; omega))))))) | (go_at_call 27; with_reducible exact reg_reach (HC.out _ (Env.reach HE.out (by (repeat (first | (with_reducible assumption) | (with_reducible exact Reach.refl _) | (with_reducible refine Reach.alloc ?_ _) | (with_reducible refine Reach.drew ?_) | (with_reducible refine Reach.drewN ?_ _) | (with_reducible refine Reach.grow ?_ _ _) | (with_reducible refine Reach.setCell ?_ ?_ _) | (with_reducible refine Reach.trans ?_ (by with_reducible assumption)) | (show _ ≤ Addr.block _; first | (exact Nat.le_refl _) | (show (_ : Nat) ≤ _; omega)) | (simp; done) | (simp; omega)))))))))) | (quiet_step ((first | (go_at_call 18; with_reducible exact reg_reach (matches_calls _ (Env.reach HE.out (by (repeat (first | (with_reducible assumption) | (with_reducible exact Reach.refl _) | (with_reducible refine Reach.alloc ?_ _) | (with_reducible refine Reach.drew ?_) | (with_reducible refine Reach.drewN ?_ _) | (with_reducible refine Reach.grow ?_ _ _) | (with_reducible refine Reach.setCell ?_ ?_ _) | (with_reducible refine Reach.trans ?_ (by with_reducible assumption)) | (show _ ≤ Addr.block _; first | (exact Nat.le_refl _) | (show (_ : Nat) ≤ _; omega)) | (simp; done) | (simp; omega))))) (KeptIs.reach HK.out (by (repeat (first | (with_reducible assumption) | (with_reducible exact Reach.refl _) | (with_reducible refine Reach.alloc ?_ _) | (with_reducible refine Reach.drew ?_) | (with_reducible refine Reach.drewN ?_ _) | (with_reducible refine Reach.grow ?_ _ _) | (with_reducible refine Reach.setCell ?_ ?_ _) | (with_reducible refine Reach.trans ?_ (by with_reducible assumption)) | (show _ ≤ Addr.block _; first | (exact Nat.le_refl _) | (show (_ : Nat) ≤ _; omega)) | (simp; done) | (simp; omega))))))) | (go_at_call 27; with_reducible exact reg_reach (HA.out _ (Env.reach HE.out (by (repeat (first | (with_reducible assumption) | (with_reducible exact Reach.refl _) | (with_reducible refine Reach.alloc ?_ _) | (with_reducible refine Reach.drew ?_) | (with_reducible refine Reach.drewN ?_ _) | (with_reducible refine Reach.grow ?_ _ _) | (with_reducible refine Reach.setCell ?_ ?_ _) | (with_reducible refine Reach.trans ?_ (by with_reducible assumption)) | (show _ ≤ Addr.block _; first | (exact Nat.le_refl _) | (show (_ : Nat) ≤ _; omega)) | (simp; done) | (simp; omega))))))) | (go_at_call 27; with_reducible exact reg_reach (HC.out _ (Env.reach HE.out (by (repeat (first | (with_reducible assumption) | (with_reducible exact Reach.refl _) | (with_reducible refine Reach.alloc ?_ _) | (with_reducible refine Reach.drew ?_) | (with_reducible refine Reach.drewN ?_ _) | (with_reducible refine Reach.grow ?_ _ _) | (with_reducible refine Reach.setCell ?_ ?_ _) | (with_reducible refine Reach.trans ?_ (by with_reducible assumption)) | (show _ ≤ Addr.block _; first | (exact Nat.le_refl _) | (show (_ : Nat) ≤ _; omega)) | (simp; done) | (simp; omega)))))))))) | (refine wpQuiet_step (fun K hK => ?_); go_simp; split <;> (refine hK _ ?_; clear hK K))))); all_goals (refine wpQuiet_nil ?_; intro _ hw'; obtain ⟨⟨dq, osq⟩, hw''⟩ := hw'; subst hw'')))
        go_ret
        exact ⟨rfl, by (repeat (first | (with_reducible assumption) | (with_reducible exact Reach.refl _) | (with_reducible refine Reach.alloc ?_ _) | (with_reducible refine Reach.drew ?_) | (with_reducible refine Reach.drewN ?_ _) | (with_reducible refine Reach.grow ?_ _ _) | (with_reducible refine Reach.setCell ?_ ?_ _) | (with_reducible refine Reach.trans ?_ (by with_reducible assumption)) | (show _ ≤ Addr.block _; first | (exact Nat.le_refl _) | (show (_ : Nat) ≤ _; omega)) | (simp; done) | (simp; omega)))⟩
end Go.Proofs.YtbeaheicjopooaaGreatDoor
