/- The law MatchParts, walked. -/
import Derived.Test.YtbeaheicjopooaaGreatDoorProg
import Derived.Test.YtbeaheicjopooaaGreatDoorRef10
import Derived.Test.YtbeaheicjopooaaGreatDoorLets
import Derived.Test.YtbeaheicjopooaaGreatDoorRsRight
namespace Go.Proofs.YtbeaheicjopooaaGreatDoor
open Go.RowKit Go.Sort
attribute [local go_sem] get_mk mk_append mk_extract0 mk_extract_end mk_extract_cons empty_mk cell_grow frozen_grow size_grow
set_option maxRecDepth 100000 in
set_option maxHeartbeats 4000000 in
theorem matchparts_calls (k : Int) (t s h : List UInt8) (wd : Bool) (p : Int) (pa : List UInt8) (u0 : Bool) (u1 u2 : List UInt8) (u3 : Int) (u4 u5 : List UInt8) (a b : List UInt8) (moved : Bool) (w : World) (_a1u : -9223372036854775808 ≤ u3) (_a2u : u3 ≤ 9223372036854775807) (hE : Env w) (hK : KeptIs w) : Calls Tryz.prog 4 #[.agg #[.int .i64 k, .string ⟨t.toArray⟩, .string ⟨s.toArray⟩, .string ⟨h.toArray⟩, .bool wd, .int .i64 p, .string ⟨pa.toArray⟩], .agg #[.bool u0, .string ⟨u1.toArray⟩, .string ⟨u2.toArray⟩, .int .i64 u3, .string ⟨u4.toArray⟩, .string ⟨u5.toArray⟩], .string ⟨a.toArray⟩, .string ⟨b.toArray⟩, .bool moved] w fun e w' => e = .returned (.bool true) ∧ Reach w w' := by
  have HE := Lib.hid hE
  have HK := Lib.hid hK
  clear hE hK
  have hl := fun W => large_calls k t s h wd p pa u0 u1 u2 u3 u4 u5 u0 u1 u2 u3 u4 u5 W
  cases hbig : largeB t s h pa ⟨u0, u1, u2, u3, u4, u5⟩ ⟨u0, u1, u2, u3, u4, u5⟩
  rotate_left
  · rw [hbig] at hl
    have HL := Lib.hid hl
    clear hl hbig
    go_enter Tryz.func4, Tryz.ntmps4
    go_wp2_with fail
    have BS : Blk (w.alloc (.cells #[.int .i64 k, .string ⟨t.toArray⟩, .string ⟨s.toArray⟩, .string ⟨h.toArray⟩, .bool wd, .int .i64 p, .string ⟨pa.toArray⟩] 33)) (w.heap.size) #[.int .i64 k, .string ⟨t.toArray⟩, .string ⟨s.toArray⟩, .string ⟨h.toArray⟩, .bool wd, .int .i64 p, .string ⟨pa.toArray⟩] 33 := by have h := Blk.new w #[.int .i64 k, .string ⟨t.toArray⟩, .string ⟨s.toArray⟩, .string ⟨h.toArray⟩, .bool wd, .int .i64 p, .string ⟨pa.toArray⟩] 33; exact h
    have BU : Blk ((w.alloc (.cells #[.int .i64 k, .string ⟨t.toArray⟩, .string ⟨s.toArray⟩, .string ⟨h.toArray⟩, .bool wd, .int .i64 p, .string ⟨pa.toArray⟩] 33)).alloc (.cells #[.bool u0, .string ⟨u1.toArray⟩, .string ⟨u2.toArray⟩, .int .i64 u3, .string ⟨u4.toArray⟩, .string ⟨u5.toArray⟩] 23)) (w.heap.size + 1) #[.bool u0, .string ⟨u1.toArray⟩, .string ⟨u2.toArray⟩, .int .i64 u3, .string ⟨u4.toArray⟩, .string ⟨u5.toArray⟩] 23 := by have h := Blk.new (w.alloc (.cells #[.int .i64 k, .string ⟨t.toArray⟩, .string ⟨s.toArray⟩, .string ⟨h.toArray⟩, .bool wd, .int .i64 p, .string ⟨pa.toArray⟩] 33)) #[.bool u0, .string ⟨u1.toArray⟩, .string ⟨u2.toArray⟩, .int .i64 u3, .string ⟨u4.toArray⟩, .string ⟨u5.toArray⟩] 23; rw [World.size_alloc] at h; exact h
    replace BS := BS.reach (Reach.alloc (Reach.refl _) (.cells #[.bool u0, .string ⟨u1.toArray⟩, .string ⟨u2.toArray⟩, .int .i64 u3, .string ⟨u4.toArray⟩, .string ⟨u5.toArray⟩] 23))
    have Q : Reach w _ := Reach.alloc (Reach.alloc (Reach.refl w) (.cells #[.int .i64 k, .string ⟨t.toArray⟩, .string ⟨s.toArray⟩, .string ⟨h.toArray⟩, .bool wd, .int .i64 p, .string ⟨pa.toArray⟩] 33)) (.cells #[.bool u0, .string ⟨u1.toArray⟩, .string ⟨u2.toArray⟩, .int .i64 u3, .string ⟨u4.toArray⟩, .string ⟨u5.toArray⟩] 23)
    generalize (w.alloc (.cells #[.int .i64 k, .string ⟨t.toArray⟩, .string ⟨s.toArray⟩, .string ⟨h.toArray⟩, .bool wd, .int .i64 p, .string ⟨pa.toArray⟩] 33)).alloc (.cells #[.bool u0, .string ⟨u1.toArray⟩, .string ⟨u2.toArray⟩, .int .i64 u3, .string ⟨u4.toArray⟩, .string ⟨u5.toArray⟩] 23) = W0 at BS BU Q ⊢
    (with_reducible refine Calls.mono (HL.out _) ?_)
    rintro e W1 ⟨rfl, hr⟩
    replace BS := BS.reach hr
    replace BU := BU.reach hr
    replace Q := Reach.trans Q hr
    clear hr
    go_wp2_with fail
    go_ret
    exact ⟨rfl, Q⟩
  rw [hbig] at hl
  have HL := Lib.hid hl
  clear hl
  unfold largeB at hbig
  simp only [Bool.or_eq_false_iff] at hbig
  obtain ⟨⟨hbs, hbu⟩, -⟩ := hbig
  have bs := bigS_no hbs
  have bu := bigN hbu
  clear hbs hbu
  by_cases la : (500 : Int) < a.length
  · have da : decide ((500 : Int) < a.length) = true := by simpa using la
    clear la bs bu
    go_enter Tryz.func4, Tryz.ntmps4
    go_wp2_with fail
    have BS : Blk (w.alloc (.cells #[.int .i64 k, .string ⟨t.toArray⟩, .string ⟨s.toArray⟩, .string ⟨h.toArray⟩, .bool wd, .int .i64 p, .string ⟨pa.toArray⟩] 33)) (w.heap.size) #[.int .i64 k, .string ⟨t.toArray⟩, .string ⟨s.toArray⟩, .string ⟨h.toArray⟩, .bool wd, .int .i64 p, .string ⟨pa.toArray⟩] 33 := by have h := Blk.new w #[.int .i64 k, .string ⟨t.toArray⟩, .string ⟨s.toArray⟩, .string ⟨h.toArray⟩, .bool wd, .int .i64 p, .string ⟨pa.toArray⟩] 33; exact h
    have BU : Blk ((w.alloc (.cells #[.int .i64 k, .string ⟨t.toArray⟩, .string ⟨s.toArray⟩, .string ⟨h.toArray⟩, .bool wd, .int .i64 p, .string ⟨pa.toArray⟩] 33)).alloc (.cells #[.bool u0, .string ⟨u1.toArray⟩, .string ⟨u2.toArray⟩, .int .i64 u3, .string ⟨u4.toArray⟩, .string ⟨u5.toArray⟩] 23)) (w.heap.size + 1) #[.bool u0, .string ⟨u1.toArray⟩, .string ⟨u2.toArray⟩, .int .i64 u3, .string ⟨u4.toArray⟩, .string ⟨u5.toArray⟩] 23 := by have h := Blk.new (w.alloc (.cells #[.int .i64 k, .string ⟨t.toArray⟩, .string ⟨s.toArray⟩, .string ⟨h.toArray⟩, .bool wd, .int .i64 p, .string ⟨pa.toArray⟩] 33)) #[.bool u0, .string ⟨u1.toArray⟩, .string ⟨u2.toArray⟩, .int .i64 u3, .string ⟨u4.toArray⟩, .string ⟨u5.toArray⟩] 23; rw [World.size_alloc] at h; exact h
    replace BS := BS.reach (Reach.alloc (Reach.refl _) (.cells #[.bool u0, .string ⟨u1.toArray⟩, .string ⟨u2.toArray⟩, .int .i64 u3, .string ⟨u4.toArray⟩, .string ⟨u5.toArray⟩] 23))
    have Q : Reach w _ := Reach.alloc (Reach.alloc (Reach.refl w) (.cells #[.int .i64 k, .string ⟨t.toArray⟩, .string ⟨s.toArray⟩, .string ⟨h.toArray⟩, .bool wd, .int .i64 p, .string ⟨pa.toArray⟩] 33)) (.cells #[.bool u0, .string ⟨u1.toArray⟩, .string ⟨u2.toArray⟩, .int .i64 u3, .string ⟨u4.toArray⟩, .string ⟨u5.toArray⟩] 23)
    generalize (w.alloc (.cells #[.int .i64 k, .string ⟨t.toArray⟩, .string ⟨s.toArray⟩, .string ⟨h.toArray⟩, .bool wd, .int .i64 p, .string ⟨pa.toArray⟩] 33)).alloc (.cells #[.bool u0, .string ⟨u1.toArray⟩, .string ⟨u2.toArray⟩, .int .i64 u3, .string ⟨u4.toArray⟩, .string ⟨u5.toArray⟩] 23) = W0 at BS BU Q ⊢
    (with_reducible refine Calls.mono (HL.out _) ?_)
    rintro e W1 ⟨rfl, hr⟩
    replace BS := BS.reach hr
    replace BU := BU.reach hr
    replace Q := Reach.trans Q hr
    clear hr
    go_wp2_with fail
    go_ret
    exact ⟨rfl, Q⟩
  have da : decide ((500 : Int) < a.length) = false := by simpa using la
  by_cases lb : (500 : Int) < b.length
  · have db : decide ((500 : Int) < b.length) = true := by simpa using lb
    clear la lb bs bu
    go_enter Tryz.func4, Tryz.ntmps4
    go_wp2_with fail
    have BS : Blk (w.alloc (.cells #[.int .i64 k, .string ⟨t.toArray⟩, .string ⟨s.toArray⟩, .string ⟨h.toArray⟩, .bool wd, .int .i64 p, .string ⟨pa.toArray⟩] 33)) (w.heap.size) #[.int .i64 k, .string ⟨t.toArray⟩, .string ⟨s.toArray⟩, .string ⟨h.toArray⟩, .bool wd, .int .i64 p, .string ⟨pa.toArray⟩] 33 := by have h := Blk.new w #[.int .i64 k, .string ⟨t.toArray⟩, .string ⟨s.toArray⟩, .string ⟨h.toArray⟩, .bool wd, .int .i64 p, .string ⟨pa.toArray⟩] 33; exact h
    have BU : Blk ((w.alloc (.cells #[.int .i64 k, .string ⟨t.toArray⟩, .string ⟨s.toArray⟩, .string ⟨h.toArray⟩, .bool wd, .int .i64 p, .string ⟨pa.toArray⟩] 33)).alloc (.cells #[.bool u0, .string ⟨u1.toArray⟩, .string ⟨u2.toArray⟩, .int .i64 u3, .string ⟨u4.toArray⟩, .string ⟨u5.toArray⟩] 23)) (w.heap.size + 1) #[.bool u0, .string ⟨u1.toArray⟩, .string ⟨u2.toArray⟩, .int .i64 u3, .string ⟨u4.toArray⟩, .string ⟨u5.toArray⟩] 23 := by have h := Blk.new (w.alloc (.cells #[.int .i64 k, .string ⟨t.toArray⟩, .string ⟨s.toArray⟩, .string ⟨h.toArray⟩, .bool wd, .int .i64 p, .string ⟨pa.toArray⟩] 33)) #[.bool u0, .string ⟨u1.toArray⟩, .string ⟨u2.toArray⟩, .int .i64 u3, .string ⟨u4.toArray⟩, .string ⟨u5.toArray⟩] 23; rw [World.size_alloc] at h; exact h
    replace BS := BS.reach (Reach.alloc (Reach.refl _) (.cells #[.bool u0, .string ⟨u1.toArray⟩, .string ⟨u2.toArray⟩, .int .i64 u3, .string ⟨u4.toArray⟩, .string ⟨u5.toArray⟩] 23))
    have Q : Reach w _ := Reach.alloc (Reach.alloc (Reach.refl w) (.cells #[.int .i64 k, .string ⟨t.toArray⟩, .string ⟨s.toArray⟩, .string ⟨h.toArray⟩, .bool wd, .int .i64 p, .string ⟨pa.toArray⟩] 33)) (.cells #[.bool u0, .string ⟨u1.toArray⟩, .string ⟨u2.toArray⟩, .int .i64 u3, .string ⟨u4.toArray⟩, .string ⟨u5.toArray⟩] 23)
    generalize (w.alloc (.cells #[.int .i64 k, .string ⟨t.toArray⟩, .string ⟨s.toArray⟩, .string ⟨h.toArray⟩, .bool wd, .int .i64 p, .string ⟨pa.toArray⟩] 33)).alloc (.cells #[.bool u0, .string ⟨u1.toArray⟩, .string ⟨u2.toArray⟩, .int .i64 u3, .string ⟨u4.toArray⟩, .string ⟨u5.toArray⟩] 23) = W0 at BS BU Q ⊢
    (with_reducible refine Calls.mono (HL.out _) ?_)
    rintro e W1 ⟨rfl, hr⟩
    replace BS := BS.reach hr
    replace BU := BU.reach hr
    replace Q := Reach.trans Q hr
    clear hr
    go_wp2_with fail
    go_ret
    exact ⟨rfl, Q⟩
  have db : decide ((500 : Int) < b.length) = false := by simpa using lb
  have hs1 := fun W => mscheme_calls a b W (by omega)
  have hs2 := fun W => rscheme10_calls a b W
  have hh1 := fun W => mhost_calls k t s h wd p pa a W (by omega) (by omega)
  have hh2 := fun W => rhost10_calls k t s h wd p pa a W (by omega) (by omega)
  have hp1 := fun W => mportM_calls k t s h wd p pa u0 u1 u2 u3 u4 u5 W
  have hp2 := fun W => rportM_calls k t s h wd p pa u0 u1 u2 u3 u4 u5 W
  have hq1 := fun W => mpath_calls a b moved W (by omega) (by omega)
  have hq2 := fun W => rpath10_calls a b moved W (by omega) (by omega)
  clear bs bu la lb
  generalize schM a b = x1 at *
  generalize hostM wd h a = x2 at *
  generalize portM p ⟨u0, u1, u2, u3, u4, u5⟩ = x3 at *
  generalize pathM a b moved = x4 at *
  have HS1 := Lib.hid hs1
  have HS2 := Lib.hid hs2
  have HH1 := Lib.hid hh1
  have HH2 := Lib.hid hh2
  have HP1 := Lib.hid hp1
  have HP2 := Lib.hid hp2
  have HQ1 := Lib.hid hq1
  have HQ2 := Lib.hid hq2
  clear hs1 hs2 hh1 hh2 hp1 hp2 hq1 hq2
  go_enter Tryz.func4, Tryz.ntmps4
  go_wp2_with fail
  have BS : Blk (w.alloc (.cells #[.int .i64 k, .string ⟨t.toArray⟩, .string ⟨s.toArray⟩, .string ⟨h.toArray⟩, .bool wd, .int .i64 p, .string ⟨pa.toArray⟩] 33)) (w.heap.size) #[.int .i64 k, .string ⟨t.toArray⟩, .string ⟨s.toArray⟩, .string ⟨h.toArray⟩, .bool wd, .int .i64 p, .string ⟨pa.toArray⟩] 33 := by have h := Blk.new w #[.int .i64 k, .string ⟨t.toArray⟩, .string ⟨s.toArray⟩, .string ⟨h.toArray⟩, .bool wd, .int .i64 p, .string ⟨pa.toArray⟩] 33; exact h
  have BU : Blk ((w.alloc (.cells #[.int .i64 k, .string ⟨t.toArray⟩, .string ⟨s.toArray⟩, .string ⟨h.toArray⟩, .bool wd, .int .i64 p, .string ⟨pa.toArray⟩] 33)).alloc (.cells #[.bool u0, .string ⟨u1.toArray⟩, .string ⟨u2.toArray⟩, .int .i64 u3, .string ⟨u4.toArray⟩, .string ⟨u5.toArray⟩] 23)) (w.heap.size + 1) #[.bool u0, .string ⟨u1.toArray⟩, .string ⟨u2.toArray⟩, .int .i64 u3, .string ⟨u4.toArray⟩, .string ⟨u5.toArray⟩] 23 := by have h := Blk.new (w.alloc (.cells #[.int .i64 k, .string ⟨t.toArray⟩, .string ⟨s.toArray⟩, .string ⟨h.toArray⟩, .bool wd, .int .i64 p, .string ⟨pa.toArray⟩] 33)) #[.bool u0, .string ⟨u1.toArray⟩, .string ⟨u2.toArray⟩, .int .i64 u3, .string ⟨u4.toArray⟩, .string ⟨u5.toArray⟩] 23; rw [World.size_alloc] at h; exact h
  replace BS := BS.reach (Reach.alloc (Reach.refl _) (.cells #[.bool u0, .string ⟨u1.toArray⟩, .string ⟨u2.toArray⟩, .int .i64 u3, .string ⟨u4.toArray⟩, .string ⟨u5.toArray⟩] 23))
  have Q : Reach w _ := Reach.alloc (Reach.alloc (Reach.refl w) (.cells #[.int .i64 k, .string ⟨t.toArray⟩, .string ⟨s.toArray⟩, .string ⟨h.toArray⟩, .bool wd, .int .i64 p, .string ⟨pa.toArray⟩] 33)) (.cells #[.bool u0, .string ⟨u1.toArray⟩, .string ⟨u2.toArray⟩, .int .i64 u3, .string ⟨u4.toArray⟩, .string ⟨u5.toArray⟩] 23)
  generalize (w.alloc (.cells #[.int .i64 k, .string ⟨t.toArray⟩, .string ⟨s.toArray⟩, .string ⟨h.toArray⟩, .bool wd, .int .i64 p, .string ⟨pa.toArray⟩] 33)).alloc (.cells #[.bool u0, .string ⟨u1.toArray⟩, .string ⟨u2.toArray⟩, .int .i64 u3, .string ⟨u4.toArray⟩, .string ⟨u5.toArray⟩] 23) = W0 at BS BU Q ⊢
  (with_reducible refine Calls.mono (HL.out _) ?_)
  rintro e W1 ⟨rfl, hr⟩
  replace BS := BS.reach hr
  replace BU := BU.reach hr
  replace Q := Reach.trans Q hr
  clear hr
  obtain ⟨x0_0, x0_1, x0_2, x0_3, x0_4, x0_5, x0_6⟩ := BS.seven
  have xl0 := BS.lt
  obtain ⟨x1_0, x1_1, x1_2, x1_3, x1_4, x1_5⟩ := BU.six
  have xl1 := BU.lt
  clear BS BU
  go_wp2_with (first | (go_at_call 18; (with_reducible refine Calls.mono (matches_calls _ (Env.reach HE.out (by (repeat (first | (with_reducible assumption) | (with_reducible exact Reach.refl _) | (with_reducible refine Reach.alloc ?_ _) | (with_reducible refine Reach.drew ?_) | (with_reducible refine Reach.drewN ?_ _) | (with_reducible refine Reach.grow ?_ _ _) | (with_reducible refine Reach.setCell ?_ ?_ _) | (with_reducible refine Reach.trans ?_ (by with_reducible assumption)) | (show _ ≤ Addr.block _; first | (exact Nat.le_refl _) | (show (_ : Nat) ≤ _; omega)) | (simp; done) | (simp; omega))))) (KeptIs.reach HK.out (by (repeat (first | (with_reducible assumption) | (with_reducible exact Reach.refl _) | (with_reducible refine Reach.alloc ?_ _) | (with_reducible refine Reach.drew ?_) | (with_reducible refine Reach.drewN ?_ _) | (with_reducible refine Reach.grow ?_ _ _) | (with_reducible refine Reach.setCell ?_ ?_ _) | (with_reducible refine Reach.trans ?_ (by with_reducible assumption)) | (show _ ≤ Addr.block _; first | (exact Nat.le_refl _) | (show (_ : Nat) ≤ _; omega)) | (simp; done) | (simp; omega)))))) ?_); rintro e w' ⟨rfl, hb⟩; obtain ⟨hc, hf, hz⟩ := Reach.facts hb) | (go_at_call 19; (with_reducible refine Calls.mono (HS1.out _) ?_); rintro e w' ⟨rfl, rfl⟩) | (go_at_call 20; (with_reducible refine Calls.mono (HS2.out _) ?_); rintro e w' ⟨rfl, rfl⟩) | (go_at_call 21; (with_reducible refine Calls.mono (HH1.out _) ?_); rintro e w' ⟨rfl, hb⟩; obtain ⟨hc, hf, hz⟩ := Reach.facts hb) | (go_at_call 22; (with_reducible refine Calls.mono (HH2.out _) ?_); rintro e w' ⟨rfl, hb⟩; obtain ⟨hc, hf, hz⟩ := Reach.facts hb) | (go_at_call 23; (with_reducible refine Calls.mono (HP1.out _) ?_); rintro e w' ⟨rfl, hb⟩; obtain ⟨hc, hf, hz⟩ := Reach.facts hb) | (go_at_call 24; (with_reducible refine Calls.mono (HP2.out _) ?_); rintro e w' ⟨rfl, hb⟩; obtain ⟨hc, hf, hz⟩ := Reach.facts hb) | (go_at_call 25; (with_reducible refine Calls.mono (HQ1.out _) ?_); rintro e w' ⟨rfl, hb⟩; obtain ⟨hc, hf, hz⟩ := Reach.facts hb) | (go_at_call 26; (with_reducible refine Calls.mono (HQ2.out _) ?_); rintro e w' ⟨rfl, hb⟩; obtain ⟨hc, hf, hz⟩ := Reach.facts hb) | ((with_reducible refine wp_region_quiet_below (by kernel_rfl) (by kernel_rfl) ?_); (repeat (any_goals (first | (go_big_quiet_step ((first | (go_at_call 18; with_reducible exact reg_reach (matches_calls _ (Env.reach HE.out (by (repeat (first | (with_reducible assumption) | (with_reducible exact Reach.refl _) | (with_reducible refine Reach.alloc ?_ _) | (with_reducible refine Reach.drew ?_) | (with_reducible refine Reach.drewN ?_ _) | (with_reducible refine Reach.grow ?_ _ _) | (with_reducible refine Reach.setCell ?_ ?_ _) | (with_reducible refine Reach.trans ?_ (by with_reducible assumption)) | (show _ ≤ Addr.block _; first | (exact Nat.le_refl _) | (show (_ : Nat) ≤ _; omega)) | (simp; done) | (simp; omega))))) (KeptIs.reach HK.out (by (repeat (first | (with_reducible assumption) | (with_reducible exact Reach.refl _) | (with_reducible refine Reach.alloc ?_ _) | (with_reducible refine Reach.drew ?_) | (with_reducible refine Reach.drewN ?_ _) | (with_reducible refine Reach.grow ?_ _ _) | (with_reducible refine Reach.setCell ?_ ?_ _) | (with_reducible refine Reach.trans ?_ (by with_reducible assumption)) | (show _ ≤ Addr.block _; first | (exact Nat.le_refl _) | (show (_ : Nat) ≤ _; omega)) | (simp; done) | (simp; omega))))))) | (go_at_call 19; with_reducible exact reg_pure (HS1.out _)) | (go_at_call 20; with_reducible exact reg_pure (HS2.out _)) | (go_at_call 21; with_reducible exact reg_reach (HH1.out _)) | (go_at_call 22; with_reducible exact reg_reach (HH2.out _)) | (go_at_call 23; with_reducible exact reg_reach (HP1.out _)) | (go_at_call 24; with_reducible exact reg_reach (HP2.out _)) | (go_at_call 25; with_reducible exact reg_reach (HQ1.out _)) | (go_at_call 26; with_reducible exact reg_reach (HQ2.out _))))) | (quiet_step ((first | (go_at_call 18; with_reducible exact reg_reach (matches_calls _ (Env.reach HE.out (by (repeat (first | (with_reducible assumption) | (with_reducible exact Reach.refl _) | (with_reducible refine Reach.alloc ?_ _) | (with_reducible refine Reach.drew ?_) | (with_reducible refine Reach.drewN ?_ _) | (with_reducible refine Reach.grow ?_ _ _) | (with_reducible refine Reach.setCell ?_ ?_ _) | (with_reducible refine Reach.trans ?_ (by with_reducible assumption)) | (show _ ≤ Addr.block _; first | (exact Nat.le_refl _) | (show (_ : Nat) ≤ _; omega)) | (simp; done) | (simp; omega))))) (KeptIs.reach HK.out (by (repeat (first | (with_reducible assumption) | (with_reducible exact Reach.refl _) | (with_reducible refine Reach.alloc ?_ _) | (with_reducible refine Reach.drew ?_) | (with_reducible refine Reach.drewN ?_ _) | (with_reducible refine Reach.grow ?_ _ _) | (with_reducible refine Reach.setCell ?_ ?_ _) | (with_reducible refine Reach.trans ?_ (by with_reducible assumption)) | (show _ ≤ Addr.block _; first | (exact Nat.le_refl _) | (show (_ : Nat) ≤ _; omega)) | (simp; done) | (simp; omega))))))) | (go_at_call 19; with_reducible exact reg_pure (HS1.out _)) | (go_at_call 20; with_reducible exact reg_pure (HS2.out _)) | (go_at_call 21; with_reducible exact reg_reach (HH1.out _)) | (go_at_call 22; with_reducible exact reg_reach (HH2.out _)) | (go_at_call 23; with_reducible exact reg_reach (HP1.out _)) | (go_at_call 24; with_reducible exact reg_reach (HP2.out _)) | (go_at_call 25; with_reducible exact reg_reach (HQ1.out _)) | (go_at_call 26; with_reducible exact reg_reach (HQ2.out _))))) | (refine wpQuiet_step (fun K hK => ?_); go_simp; split <;> (refine hK _ ?_; clear hK K))))); all_goals (refine wpQuiet_nil ?_; intro _ hw'; obtain ⟨⟨dq, osq⟩, hw''⟩ := hw'; subst hw'')))
  go_ret
  exact ⟨rfl, by (repeat (first | (with_reducible assumption) | (with_reducible exact Reach.refl _) | (with_reducible refine Reach.alloc ?_ _) | (with_reducible refine Reach.drew ?_) | (with_reducible refine Reach.drewN ?_ _) | (with_reducible refine Reach.grow ?_ _ _) | (with_reducible refine Reach.setCell ?_ ?_ _) | (with_reducible refine Reach.trans ?_ (by with_reducible assumption)) | (show _ ≤ Addr.block _; first | (exact Nat.le_refl _) | (show (_ : Nat) ≤ _; omega)) | (simp; done) | (simp; omega)))⟩
end Go.Proofs.YtbeaheicjopooaaGreatDoor
