/- The law MatchMoved, walked. -/
import Derived.Test.YtbeaheicjopooaaGreatDoorProg
import Derived.Test.YtbeaheicjopooaaGreatDoorLets
import Derived.Test.YtbeaheicjopooaaGreatDoorRsRight
namespace Go.Proofs.YtbeaheicjopooaaGreatDoor
open Go.RowKit Go.Sort
attribute [local go_sem] get_mk mk_append mk_extract0 mk_extract_end mk_extract_cons empty_mk cell_grow frozen_grow size_grow
set_option maxRecDepth 100000 in
set_option maxHeartbeats 4000000 in
theorem matchmoved_calls (k : Int) (t s h : List UInt8) (wd : Bool) (p : Int) (pa : List UInt8) (u0 : Bool) (u1 u2 : List UInt8) (u3 : Int) (u4 u5 : List UInt8) (v0 : Bool) (v1 v2 : List UInt8) (v3 : Int) (v4 v5 : List UInt8) (w : World) (a1u : -9223372036854775808 ≤ u3) (a2u : u3 ≤ 9223372036854775807) (a1v : -9223372036854775808 ≤ v3) (a2v : v3 ≤ 9223372036854775807) (hE : Env w) (hK : KeptIs w) : Calls Tryz.prog 6 #[.agg #[.int .i64 k, .string ⟨t.toArray⟩, .string ⟨s.toArray⟩, .string ⟨h.toArray⟩, .bool wd, .int .i64 p, .string ⟨pa.toArray⟩], .agg #[.bool u0, .string ⟨u1.toArray⟩, .string ⟨u2.toArray⟩, .int .i64 u3, .string ⟨u4.toArray⟩, .string ⟨u5.toArray⟩], .agg #[.bool v0, .string ⟨v1.toArray⟩, .string ⟨v2.toArray⟩, .int .i64 v3, .string ⟨v4.toArray⟩, .string ⟨v5.toArray⟩]] w fun e w' => e = .returned (.bool true) ∧ Reach w w' := by
  have HE := Lib.hid hE
  have HK := Lib.hid hK
  clear hE hK
  have hl := fun W => large_calls k t s h wd p pa u0 u1 u2 u3 u4 u5 v0 v1 v2 v3 v4 v5 W
  cases hbig : largeB t s h pa ⟨u0, u1, u2, u3, u4, u5⟩ ⟨v0, v1, v2, v3, v4, v5⟩
  rotate_left
  · rw [hbig] at hl
    have HL := Lib.hid hl
    clear hl hbig
    go_enter Tryz.func6, Tryz.ntmps6
    go_wp2_with fail
    have BS : Blk (w.alloc (.cells #[.int .i64 k, .string ⟨t.toArray⟩, .string ⟨s.toArray⟩, .string ⟨h.toArray⟩, .bool wd, .int .i64 p, .string ⟨pa.toArray⟩] 33)) (w.heap.size) #[.int .i64 k, .string ⟨t.toArray⟩, .string ⟨s.toArray⟩, .string ⟨h.toArray⟩, .bool wd, .int .i64 p, .string ⟨pa.toArray⟩] 33 := by have h := Blk.new w #[.int .i64 k, .string ⟨t.toArray⟩, .string ⟨s.toArray⟩, .string ⟨h.toArray⟩, .bool wd, .int .i64 p, .string ⟨pa.toArray⟩] 33; exact h
    have BU : Blk ((w.alloc (.cells #[.int .i64 k, .string ⟨t.toArray⟩, .string ⟨s.toArray⟩, .string ⟨h.toArray⟩, .bool wd, .int .i64 p, .string ⟨pa.toArray⟩] 33)).alloc (.cells #[.bool u0, .string ⟨u1.toArray⟩, .string ⟨u2.toArray⟩, .int .i64 u3, .string ⟨u4.toArray⟩, .string ⟨u5.toArray⟩] 23)) (w.heap.size + 1) #[.bool u0, .string ⟨u1.toArray⟩, .string ⟨u2.toArray⟩, .int .i64 u3, .string ⟨u4.toArray⟩, .string ⟨u5.toArray⟩] 23 := by have h := Blk.new (w.alloc (.cells #[.int .i64 k, .string ⟨t.toArray⟩, .string ⟨s.toArray⟩, .string ⟨h.toArray⟩, .bool wd, .int .i64 p, .string ⟨pa.toArray⟩] 33)) #[.bool u0, .string ⟨u1.toArray⟩, .string ⟨u2.toArray⟩, .int .i64 u3, .string ⟨u4.toArray⟩, .string ⟨u5.toArray⟩] 23; rw [World.size_alloc] at h; exact h
    replace BS := BS.reach (Reach.alloc (Reach.refl _) (.cells #[.bool u0, .string ⟨u1.toArray⟩, .string ⟨u2.toArray⟩, .int .i64 u3, .string ⟨u4.toArray⟩, .string ⟨u5.toArray⟩] 23))
    have BO : Blk (((w.alloc (.cells #[.int .i64 k, .string ⟨t.toArray⟩, .string ⟨s.toArray⟩, .string ⟨h.toArray⟩, .bool wd, .int .i64 p, .string ⟨pa.toArray⟩] 33)).alloc (.cells #[.bool u0, .string ⟨u1.toArray⟩, .string ⟨u2.toArray⟩, .int .i64 u3, .string ⟨u4.toArray⟩, .string ⟨u5.toArray⟩] 23)).alloc (.cells #[.bool v0, .string ⟨v1.toArray⟩, .string ⟨v2.toArray⟩, .int .i64 v3, .string ⟨v4.toArray⟩, .string ⟨v5.toArray⟩] 23)) (w.heap.size + 2) #[.bool v0, .string ⟨v1.toArray⟩, .string ⟨v2.toArray⟩, .int .i64 v3, .string ⟨v4.toArray⟩, .string ⟨v5.toArray⟩] 23 := by have h := Blk.new ((w.alloc (.cells #[.int .i64 k, .string ⟨t.toArray⟩, .string ⟨s.toArray⟩, .string ⟨h.toArray⟩, .bool wd, .int .i64 p, .string ⟨pa.toArray⟩] 33)).alloc (.cells #[.bool u0, .string ⟨u1.toArray⟩, .string ⟨u2.toArray⟩, .int .i64 u3, .string ⟨u4.toArray⟩, .string ⟨u5.toArray⟩] 23)) #[.bool v0, .string ⟨v1.toArray⟩, .string ⟨v2.toArray⟩, .int .i64 v3, .string ⟨v4.toArray⟩, .string ⟨v5.toArray⟩] 23; rw [World.size_alloc, World.size_alloc] at h; exact h
    replace BS := BS.reach (Reach.alloc (Reach.refl _) (.cells #[.bool v0, .string ⟨v1.toArray⟩, .string ⟨v2.toArray⟩, .int .i64 v3, .string ⟨v4.toArray⟩, .string ⟨v5.toArray⟩] 23))
    replace BU := BU.reach (Reach.alloc (Reach.refl _) (.cells #[.bool v0, .string ⟨v1.toArray⟩, .string ⟨v2.toArray⟩, .int .i64 v3, .string ⟨v4.toArray⟩, .string ⟨v5.toArray⟩] 23))
    have Q : Reach w _ := Reach.alloc (Reach.alloc (Reach.alloc (Reach.refl w) (.cells #[.int .i64 k, .string ⟨t.toArray⟩, .string ⟨s.toArray⟩, .string ⟨h.toArray⟩, .bool wd, .int .i64 p, .string ⟨pa.toArray⟩] 33)) (.cells #[.bool u0, .string ⟨u1.toArray⟩, .string ⟨u2.toArray⟩, .int .i64 u3, .string ⟨u4.toArray⟩, .string ⟨u5.toArray⟩] 23)) (.cells #[.bool v0, .string ⟨v1.toArray⟩, .string ⟨v2.toArray⟩, .int .i64 v3, .string ⟨v4.toArray⟩, .string ⟨v5.toArray⟩] 23)
    generalize ((w.alloc (.cells #[.int .i64 k, .string ⟨t.toArray⟩, .string ⟨s.toArray⟩, .string ⟨h.toArray⟩, .bool wd, .int .i64 p, .string ⟨pa.toArray⟩] 33)).alloc (.cells #[.bool u0, .string ⟨u1.toArray⟩, .string ⟨u2.toArray⟩, .int .i64 u3, .string ⟨u4.toArray⟩, .string ⟨u5.toArray⟩] 23)).alloc (.cells #[.bool v0, .string ⟨v1.toArray⟩, .string ⟨v2.toArray⟩, .int .i64 v3, .string ⟨v4.toArray⟩, .string ⟨v5.toArray⟩] 23) = W0 at BS BU BO Q ⊢
    (with_reducible refine Calls.mono (HL.out _) ?_)
    rintro e W1 ⟨rfl, hr⟩
    replace BS := BS.reach hr
    replace BU := BU.reach hr
    replace BO := BO.reach hr
    replace Q := Reach.trans Q hr
    clear hr
    go_wp2_with fail
    go_ret
    exact ⟨rfl, Q⟩
  rw [hbig] at hl
  have HL := Lib.hid hl
  clear hl
  unfold largeB at hbig
  simp only [Bool.or_eq_false_iff] at hbig
  obtain ⟨⟨hbs, hbu⟩, hbv⟩ := hbig
  have bs := bigS_no hbs
  have bu := bigN hbu
  have bv := bigN hbv
  clear hbs hbu hbv
  have ha := fun W (hE : Env W) => murl_calls k t s h wd p pa u0 u1 u2 u3 u4 u5 v0 v1 v2 v3 v4 v5 false W (by omega) (by omega) (by omega) a1u a2u (by omega) (by omega) (by omega) (by omega)  a1v a2v (by omega) (by omega) (by omega) (by omega)  hE
  have hc := fun W (hE : Env W) => murl_calls k t s h wd p pa u0 u1 u2 u3 u4 u5 v0 v1 v2 v3 v4 v5 true W (by omega) (by omega) (by omega) a1u a2u (by omega) (by omega) (by omega) (by omega)  a1v a2v (by omega) (by omega) (by omega) (by omega)  hE
  have hm := match_moved ⟨k, t, s, h, wd, p, pa⟩ ⟨u0, u1, u2, u3, u4, u5⟩ ⟨v0, v1, v2, v3, v4, v5⟩
  clear bs bu bv
  simp only at hm
  generalize urlM ⟨k, t, s, h, wd, p, pa⟩ ⟨u0, u1, u2, u3, u4, u5⟩ ⟨v0, v1, v2, v3, v4, v5⟩ false = x at *
  generalize urlM ⟨k, t, s, h, wd, p, pa⟩ ⟨u0, u1, u2, u3, u4, u5⟩ ⟨v0, v1, v2, v3, v4, v5⟩ true = y at *
  have HA := Lib.hid ha
  have HC := Lib.hid hc
  clear ha hc
  cases pa with
  | nil =>
    cases x <;> cases y <;> first | (simp at hm; done) | skip
    all_goals
      clear hm
      go_enter Tryz.func6, Tryz.ntmps6
      go_wp2_with fail
      have BS : Blk (w.alloc (.cells #[.int .i64 k, .string ⟨t.toArray⟩, .string ⟨s.toArray⟩, .string ⟨h.toArray⟩, .bool wd, .int .i64 p, .string ⟨#[]⟩] 33)) (w.heap.size) #[.int .i64 k, .string ⟨t.toArray⟩, .string ⟨s.toArray⟩, .string ⟨h.toArray⟩, .bool wd, .int .i64 p, .string ⟨#[]⟩] 33 := by have h := Blk.new w #[.int .i64 k, .string ⟨t.toArray⟩, .string ⟨s.toArray⟩, .string ⟨h.toArray⟩, .bool wd, .int .i64 p, .string ⟨#[]⟩] 33; exact h
      have BU : Blk ((w.alloc (.cells #[.int .i64 k, .string ⟨t.toArray⟩, .string ⟨s.toArray⟩, .string ⟨h.toArray⟩, .bool wd, .int .i64 p, .string ⟨#[]⟩] 33)).alloc (.cells #[.bool u0, .string ⟨u1.toArray⟩, .string ⟨u2.toArray⟩, .int .i64 u3, .string ⟨u4.toArray⟩, .string ⟨u5.toArray⟩] 23)) (w.heap.size + 1) #[.bool u0, .string ⟨u1.toArray⟩, .string ⟨u2.toArray⟩, .int .i64 u3, .string ⟨u4.toArray⟩, .string ⟨u5.toArray⟩] 23 := by have h := Blk.new (w.alloc (.cells #[.int .i64 k, .string ⟨t.toArray⟩, .string ⟨s.toArray⟩, .string ⟨h.toArray⟩, .bool wd, .int .i64 p, .string ⟨#[]⟩] 33)) #[.bool u0, .string ⟨u1.toArray⟩, .string ⟨u2.toArray⟩, .int .i64 u3, .string ⟨u4.toArray⟩, .string ⟨u5.toArray⟩] 23; rw [World.size_alloc] at h; exact h
      replace BS := BS.reach (Reach.alloc (Reach.refl _) (.cells #[.bool u0, .string ⟨u1.toArray⟩, .string ⟨u2.toArray⟩, .int .i64 u3, .string ⟨u4.toArray⟩, .string ⟨u5.toArray⟩] 23))
      have BO : Blk (((w.alloc (.cells #[.int .i64 k, .string ⟨t.toArray⟩, .string ⟨s.toArray⟩, .string ⟨h.toArray⟩, .bool wd, .int .i64 p, .string ⟨#[]⟩] 33)).alloc (.cells #[.bool u0, .string ⟨u1.toArray⟩, .string ⟨u2.toArray⟩, .int .i64 u3, .string ⟨u4.toArray⟩, .string ⟨u5.toArray⟩] 23)).alloc (.cells #[.bool v0, .string ⟨v1.toArray⟩, .string ⟨v2.toArray⟩, .int .i64 v3, .string ⟨v4.toArray⟩, .string ⟨v5.toArray⟩] 23)) (w.heap.size + 2) #[.bool v0, .string ⟨v1.toArray⟩, .string ⟨v2.toArray⟩, .int .i64 v3, .string ⟨v4.toArray⟩, .string ⟨v5.toArray⟩] 23 := by have h := Blk.new ((w.alloc (.cells #[.int .i64 k, .string ⟨t.toArray⟩, .string ⟨s.toArray⟩, .string ⟨h.toArray⟩, .bool wd, .int .i64 p, .string ⟨#[]⟩] 33)).alloc (.cells #[.bool u0, .string ⟨u1.toArray⟩, .string ⟨u2.toArray⟩, .int .i64 u3, .string ⟨u4.toArray⟩, .string ⟨u5.toArray⟩] 23)) #[.bool v0, .string ⟨v1.toArray⟩, .string ⟨v2.toArray⟩, .int .i64 v3, .string ⟨v4.toArray⟩, .string ⟨v5.toArray⟩] 23; rw [World.size_alloc, World.size_alloc] at h; exact h
      replace BS := BS.reach (Reach.alloc (Reach.refl _) (.cells #[.bool v0, .string ⟨v1.toArray⟩, .string ⟨v2.toArray⟩, .int .i64 v3, .string ⟨v4.toArray⟩, .string ⟨v5.toArray⟩] 23))
      replace BU := BU.reach (Reach.alloc (Reach.refl _) (.cells #[.bool v0, .string ⟨v1.toArray⟩, .string ⟨v2.toArray⟩, .int .i64 v3, .string ⟨v4.toArray⟩, .string ⟨v5.toArray⟩] 23))
      have Q : Reach w _ := Reach.alloc (Reach.alloc (Reach.alloc (Reach.refl w) (.cells #[.int .i64 k, .string ⟨t.toArray⟩, .string ⟨s.toArray⟩, .string ⟨h.toArray⟩, .bool wd, .int .i64 p, .string ⟨#[]⟩] 33)) (.cells #[.bool u0, .string ⟨u1.toArray⟩, .string ⟨u2.toArray⟩, .int .i64 u3, .string ⟨u4.toArray⟩, .string ⟨u5.toArray⟩] 23)) (.cells #[.bool v0, .string ⟨v1.toArray⟩, .string ⟨v2.toArray⟩, .int .i64 v3, .string ⟨v4.toArray⟩, .string ⟨v5.toArray⟩] 23)
      generalize ((w.alloc (.cells #[.int .i64 k, .string ⟨t.toArray⟩, .string ⟨s.toArray⟩, .string ⟨h.toArray⟩, .bool wd, .int .i64 p, .string ⟨#[]⟩] 33)).alloc (.cells #[.bool u0, .string ⟨u1.toArray⟩, .string ⟨u2.toArray⟩, .int .i64 u3, .string ⟨u4.toArray⟩, .string ⟨u5.toArray⟩] 23)).alloc (.cells #[.bool v0, .string ⟨v1.toArray⟩, .string ⟨v2.toArray⟩, .int .i64 v3, .string ⟨v4.toArray⟩, .string ⟨v5.toArray⟩] 23) = W0 at BS BU BO Q ⊢
      (with_reducible refine Calls.mono (HL.out _) ?_)
      rintro e W1 ⟨rfl, hr⟩
      replace BS := BS.reach hr
      replace BU := BU.reach hr
      replace BO := BO.reach hr
      replace Q := Reach.trans Q hr
      clear hr
      obtain ⟨x0_0, x0_1, x0_2, x0_3, x0_4, x0_5, x0_6⟩ := BS.seven
      have xl0 := BS.lt
      obtain ⟨x1_0, x1_1, x1_2, x1_3, x1_4, x1_5⟩ := BU.six
      have xl1 := BU.lt
      obtain ⟨x2_0, x2_1, x2_2, x2_3, x2_4, x2_5⟩ := BO.six
      have xl2 := BO.lt
      go_wp2_with fail
      clear x0_0 x0_1 x0_2 x0_3 x0_4 x0_5 x0_6 xl0 x1_0 x1_1 x1_2 x1_3 x1_4 x1_5 xl1 x2_0 x2_1 x2_2 x2_3 x2_4 x2_5 xl2
      (with_reducible refine Calls.mono (HA.out _ (Env.reach HE.out Q)) ?_)
      rintro e W2 ⟨rfl, hr⟩
      replace BS := BS.reach hr
      replace BU := BU.reach hr
      replace BO := BO.reach hr
      replace Q := Reach.trans Q hr
      clear hr
      obtain ⟨x0_0, x0_1, x0_2, x0_3, x0_4, x0_5, x0_6⟩ := BS.seven
      have xl0 := BS.lt
      obtain ⟨x1_0, x1_1, x1_2, x1_3, x1_4, x1_5⟩ := BU.six
      have xl1 := BU.lt
      obtain ⟨x2_0, x2_1, x2_2, x2_3, x2_4, x2_5⟩ := BO.six
      have xl2 := BO.lt
      go_wp2_with fail
      clear x0_0 x0_1 x0_2 x0_3 x0_4 x0_5 x0_6 xl0 x1_0 x1_1 x1_2 x1_3 x1_4 x1_5 xl1 x2_0 x2_1 x2_2 x2_3 x2_4 x2_5 xl2
      (with_reducible refine Calls.mono (HC.out _ (Env.reach HE.out Q)) ?_)
      rintro e W3 ⟨rfl, hr⟩
      replace BS := BS.reach hr
      replace Q := Reach.trans Q hr
      clear hr
      obtain ⟨x0_0, x0_1, x0_2, x0_3, x0_4, x0_5, x0_6⟩ := BS.seven
      have xl0 := BS.lt
      go_wp2_with fail
      clear x0_0 x0_1 x0_2 x0_3 x0_4 x0_5 x0_6 xl0
      (with_reducible refine Calls.mono (matches_calls _ (Env.reach HE.out Q) (KeptIs.reach HK.out Q)) ?_)
      rintro e W4 ⟨rfl, hr⟩
      replace BS := BS.reach hr
      replace Q := Reach.trans Q hr
      clear hr
      obtain ⟨x0_0, x0_1, x0_2, x0_3, x0_4, x0_5, x0_6⟩ := BS.seven
      have xl0 := BS.lt
      go_wp2_with fail
      clear x0_0 x0_1 x0_2 x0_3 x0_4 x0_5 x0_6 xl0
      go_ret
      exact ⟨rfl, Q⟩
  | cons c cs =>
    cases x <;> cases y <;> first | (simp at hm; done) | skip
    all_goals
      clear hm
      go_enter Tryz.func6, Tryz.ntmps6
      go_wp2_with fail
      have BS : Blk (w.alloc (.cells #[.int .i64 k, .string ⟨t.toArray⟩, .string ⟨s.toArray⟩, .string ⟨h.toArray⟩, .bool wd, .int .i64 p, .string ⟨(c :: cs).toArray⟩] 33)) (w.heap.size) #[.int .i64 k, .string ⟨t.toArray⟩, .string ⟨s.toArray⟩, .string ⟨h.toArray⟩, .bool wd, .int .i64 p, .string ⟨(c :: cs).toArray⟩] 33 := by have h := Blk.new w #[.int .i64 k, .string ⟨t.toArray⟩, .string ⟨s.toArray⟩, .string ⟨h.toArray⟩, .bool wd, .int .i64 p, .string ⟨(c :: cs).toArray⟩] 33; exact h
      have BU : Blk ((w.alloc (.cells #[.int .i64 k, .string ⟨t.toArray⟩, .string ⟨s.toArray⟩, .string ⟨h.toArray⟩, .bool wd, .int .i64 p, .string ⟨(c :: cs).toArray⟩] 33)).alloc (.cells #[.bool u0, .string ⟨u1.toArray⟩, .string ⟨u2.toArray⟩, .int .i64 u3, .string ⟨u4.toArray⟩, .string ⟨u5.toArray⟩] 23)) (w.heap.size + 1) #[.bool u0, .string ⟨u1.toArray⟩, .string ⟨u2.toArray⟩, .int .i64 u3, .string ⟨u4.toArray⟩, .string ⟨u5.toArray⟩] 23 := by have h := Blk.new (w.alloc (.cells #[.int .i64 k, .string ⟨t.toArray⟩, .string ⟨s.toArray⟩, .string ⟨h.toArray⟩, .bool wd, .int .i64 p, .string ⟨(c :: cs).toArray⟩] 33)) #[.bool u0, .string ⟨u1.toArray⟩, .string ⟨u2.toArray⟩, .int .i64 u3, .string ⟨u4.toArray⟩, .string ⟨u5.toArray⟩] 23; rw [World.size_alloc] at h; exact h
      replace BS := BS.reach (Reach.alloc (Reach.refl _) (.cells #[.bool u0, .string ⟨u1.toArray⟩, .string ⟨u2.toArray⟩, .int .i64 u3, .string ⟨u4.toArray⟩, .string ⟨u5.toArray⟩] 23))
      have BO : Blk (((w.alloc (.cells #[.int .i64 k, .string ⟨t.toArray⟩, .string ⟨s.toArray⟩, .string ⟨h.toArray⟩, .bool wd, .int .i64 p, .string ⟨(c :: cs).toArray⟩] 33)).alloc (.cells #[.bool u0, .string ⟨u1.toArray⟩, .string ⟨u2.toArray⟩, .int .i64 u3, .string ⟨u4.toArray⟩, .string ⟨u5.toArray⟩] 23)).alloc (.cells #[.bool v0, .string ⟨v1.toArray⟩, .string ⟨v2.toArray⟩, .int .i64 v3, .string ⟨v4.toArray⟩, .string ⟨v5.toArray⟩] 23)) (w.heap.size + 2) #[.bool v0, .string ⟨v1.toArray⟩, .string ⟨v2.toArray⟩, .int .i64 v3, .string ⟨v4.toArray⟩, .string ⟨v5.toArray⟩] 23 := by have h := Blk.new ((w.alloc (.cells #[.int .i64 k, .string ⟨t.toArray⟩, .string ⟨s.toArray⟩, .string ⟨h.toArray⟩, .bool wd, .int .i64 p, .string ⟨(c :: cs).toArray⟩] 33)).alloc (.cells #[.bool u0, .string ⟨u1.toArray⟩, .string ⟨u2.toArray⟩, .int .i64 u3, .string ⟨u4.toArray⟩, .string ⟨u5.toArray⟩] 23)) #[.bool v0, .string ⟨v1.toArray⟩, .string ⟨v2.toArray⟩, .int .i64 v3, .string ⟨v4.toArray⟩, .string ⟨v5.toArray⟩] 23; rw [World.size_alloc, World.size_alloc] at h; exact h
      replace BS := BS.reach (Reach.alloc (Reach.refl _) (.cells #[.bool v0, .string ⟨v1.toArray⟩, .string ⟨v2.toArray⟩, .int .i64 v3, .string ⟨v4.toArray⟩, .string ⟨v5.toArray⟩] 23))
      replace BU := BU.reach (Reach.alloc (Reach.refl _) (.cells #[.bool v0, .string ⟨v1.toArray⟩, .string ⟨v2.toArray⟩, .int .i64 v3, .string ⟨v4.toArray⟩, .string ⟨v5.toArray⟩] 23))
      have Q : Reach w _ := Reach.alloc (Reach.alloc (Reach.alloc (Reach.refl w) (.cells #[.int .i64 k, .string ⟨t.toArray⟩, .string ⟨s.toArray⟩, .string ⟨h.toArray⟩, .bool wd, .int .i64 p, .string ⟨(c :: cs).toArray⟩] 33)) (.cells #[.bool u0, .string ⟨u1.toArray⟩, .string ⟨u2.toArray⟩, .int .i64 u3, .string ⟨u4.toArray⟩, .string ⟨u5.toArray⟩] 23)) (.cells #[.bool v0, .string ⟨v1.toArray⟩, .string ⟨v2.toArray⟩, .int .i64 v3, .string ⟨v4.toArray⟩, .string ⟨v5.toArray⟩] 23)
      generalize ((w.alloc (.cells #[.int .i64 k, .string ⟨t.toArray⟩, .string ⟨s.toArray⟩, .string ⟨h.toArray⟩, .bool wd, .int .i64 p, .string ⟨(c :: cs).toArray⟩] 33)).alloc (.cells #[.bool u0, .string ⟨u1.toArray⟩, .string ⟨u2.toArray⟩, .int .i64 u3, .string ⟨u4.toArray⟩, .string ⟨u5.toArray⟩] 23)).alloc (.cells #[.bool v0, .string ⟨v1.toArray⟩, .string ⟨v2.toArray⟩, .int .i64 v3, .string ⟨v4.toArray⟩, .string ⟨v5.toArray⟩] 23) = W0 at BS BU BO Q ⊢
      (with_reducible refine Calls.mono (HL.out _) ?_)
      rintro e W1 ⟨rfl, hr⟩
      replace BS := BS.reach hr
      replace BU := BU.reach hr
      replace BO := BO.reach hr
      replace Q := Reach.trans Q hr
      clear hr
      obtain ⟨x0_0, x0_1, x0_2, x0_3, x0_4, x0_5, x0_6⟩ := BS.seven
      have xl0 := BS.lt
      obtain ⟨x1_0, x1_1, x1_2, x1_3, x1_4, x1_5⟩ := BU.six
      have xl1 := BU.lt
      obtain ⟨x2_0, x2_1, x2_2, x2_3, x2_4, x2_5⟩ := BO.six
      have xl2 := BO.lt
      go_wp2_with fail
      clear x0_0 x0_1 x0_2 x0_3 x0_4 x0_5 x0_6 xl0 x1_0 x1_1 x1_2 x1_3 x1_4 x1_5 xl1 x2_0 x2_1 x2_2 x2_3 x2_4 x2_5 xl2
      (with_reducible refine Calls.mono (HA.out _ (Env.reach HE.out Q)) ?_)
      rintro e W2 ⟨rfl, hr⟩
      replace BS := BS.reach hr
      replace BU := BU.reach hr
      replace BO := BO.reach hr
      replace Q := Reach.trans Q hr
      clear hr
      obtain ⟨x0_0, x0_1, x0_2, x0_3, x0_4, x0_5, x0_6⟩ := BS.seven
      have xl0 := BS.lt
      obtain ⟨x1_0, x1_1, x1_2, x1_3, x1_4, x1_5⟩ := BU.six
      have xl1 := BU.lt
      obtain ⟨x2_0, x2_1, x2_2, x2_3, x2_4, x2_5⟩ := BO.six
      have xl2 := BO.lt
      go_wp2_with fail
      clear x0_0 x0_1 x0_2 x0_3 x0_4 x0_5 x0_6 xl0 x1_0 x1_1 x1_2 x1_3 x1_4 x1_5 xl1 x2_0 x2_1 x2_2 x2_3 x2_4 x2_5 xl2
      (with_reducible refine Calls.mono (HC.out _ (Env.reach HE.out Q)) ?_)
      rintro e W3 ⟨rfl, hr⟩
      replace BS := BS.reach hr
      replace Q := Reach.trans Q hr
      clear hr
      obtain ⟨x0_0, x0_1, x0_2, x0_3, x0_4, x0_5, x0_6⟩ := BS.seven
      have xl0 := BS.lt
      go_wp2_with fail
      clear x0_0 x0_1 x0_2 x0_3 x0_4 x0_5 x0_6 xl0
      (with_reducible refine Calls.mono (matches_calls _ (Env.reach HE.out Q) (KeptIs.reach HK.out Q)) ?_)
      rintro e W4 ⟨rfl, hr⟩
      replace BS := BS.reach hr
      replace Q := Reach.trans Q hr
      clear hr
      obtain ⟨x0_0, x0_1, x0_2, x0_3, x0_4, x0_5, x0_6⟩ := BS.seven
      have xl0 := BS.lt
      go_wp2_with fail
      clear x0_0 x0_1 x0_2 x0_3 x0_4 x0_5 x0_6 xl0
      go_ret
      exact ⟨rfl, Q⟩
end Go.Proofs.YtbeaheicjopooaaGreatDoor
