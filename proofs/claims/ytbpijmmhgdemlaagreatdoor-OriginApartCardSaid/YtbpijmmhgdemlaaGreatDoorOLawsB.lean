/- The laws OriginApart and OriginSecure, walked. -/
import Derived.Test.YtbpijmmhgdemlaaGreatDoorProg
import Derived.Test.YtbpijmmhgdemlaaGreatDoorOLaws
namespace Go.Proofs.YtbpijmmhgdemlaaGreatDoor
open Go.RowKit Go.Sort
attribute [local go_sem] get_mk mk_append mk_extract0 mk_extract_end mk_extract_cons empty_mk cell_grow frozen_grow size_grow
attribute [local go_sem ↓] run_eql_org run_neq_org run_eql_url run_neq_url
theorem checkE_ok {u : URL} (h : checkB u = true) : checkE u = 0 := by rw [checkE, h]; rfl
theorem checkE_no {u : URL} (h : checkB u = false) : checkE u = 50 := by rw [checkE, h]; rfl
set_option maxRecDepth 100000 in
set_option maxHeartbeats 4000000 in
theorem oapart_calls (o : Bool) (a b : List UInt8) (n : Int) (c d : List UInt8) (o' : Bool) (a' b' : List UInt8) (n' : Int) (c' d' : List UInt8) (w : World) (h1 : -9223372036854775808 ≤ n) (h2 : n ≤ 9223372036854775807) (h1' : -9223372036854775808 ≤ n') (h2' : n' ≤ 9223372036854775807) (hE : Env w) :
    Calls Tryz.prog 7 #[.agg #[.bool o, .string ⟨a.toArray⟩, .string ⟨b.toArray⟩, .int .i64 n, .string ⟨c.toArray⟩, .string ⟨d.toArray⟩], .agg #[.bool o', .string ⟨a'.toArray⟩, .string ⟨b'.toArray⟩, .int .i64 n', .string ⟨c'.toArray⟩, .string ⟨d'.toArray⟩]] w fun e w' => e = .returned (.bool true) ∧ Reach w w' := by
  have HE := Lib.hid hE
  clear hE
  have hba := fun W => big_calls o a b n c d W
  have hbb := fun W => big_calls o' a' b' n' c' d' W
  cases hbig : bigB a b c d
  rotate_left
  · rw [hbig] at hba
    have HBA := Lib.hid hba
    clear hba hbb hbig
    go_enter Tryz.func7, Tryz.ntmps7
    go_wp2_with fail
    have BA : Blk (w.alloc (.cells #[.bool o, .string ⟨a.toArray⟩, .string ⟨b.toArray⟩, .int .i64 n, .string ⟨c.toArray⟩, .string ⟨d.toArray⟩] 23)) (w.heap.size) #[.bool o, .string ⟨a.toArray⟩, .string ⟨b.toArray⟩, .int .i64 n, .string ⟨c.toArray⟩, .string ⟨d.toArray⟩] 23 := by have h := Blk.new w #[.bool o, .string ⟨a.toArray⟩, .string ⟨b.toArray⟩, .int .i64 n, .string ⟨c.toArray⟩, .string ⟨d.toArray⟩] 23; exact h
    have BB : Blk ((w.alloc (.cells #[.bool o, .string ⟨a.toArray⟩, .string ⟨b.toArray⟩, .int .i64 n, .string ⟨c.toArray⟩, .string ⟨d.toArray⟩] 23)).alloc (.cells #[.bool o', .string ⟨a'.toArray⟩, .string ⟨b'.toArray⟩, .int .i64 n', .string ⟨c'.toArray⟩, .string ⟨d'.toArray⟩] 23)) (w.heap.size + 1) #[.bool o', .string ⟨a'.toArray⟩, .string ⟨b'.toArray⟩, .int .i64 n', .string ⟨c'.toArray⟩, .string ⟨d'.toArray⟩] 23 := by have h := Blk.new (w.alloc (.cells #[.bool o, .string ⟨a.toArray⟩, .string ⟨b.toArray⟩, .int .i64 n, .string ⟨c.toArray⟩, .string ⟨d.toArray⟩] 23)) #[.bool o', .string ⟨a'.toArray⟩, .string ⟨b'.toArray⟩, .int .i64 n', .string ⟨c'.toArray⟩, .string ⟨d'.toArray⟩] 23; rw [World.size_alloc] at h; exact h
    replace BA := BA.reach (Reach.alloc (Reach.refl _) (.cells #[.bool o', .string ⟨a'.toArray⟩, .string ⟨b'.toArray⟩, .int .i64 n', .string ⟨c'.toArray⟩, .string ⟨d'.toArray⟩] 23))
    have Q : Reach w _ := Reach.alloc (Reach.alloc (Reach.refl w) (.cells #[.bool o, .string ⟨a.toArray⟩, .string ⟨b.toArray⟩, .int .i64 n, .string ⟨c.toArray⟩, .string ⟨d.toArray⟩] 23)) (.cells #[.bool o', .string ⟨a'.toArray⟩, .string ⟨b'.toArray⟩, .int .i64 n', .string ⟨c'.toArray⟩, .string ⟨d'.toArray⟩] 23)
    generalize (w.alloc (.cells #[.bool o, .string ⟨a.toArray⟩, .string ⟨b.toArray⟩, .int .i64 n, .string ⟨c.toArray⟩, .string ⟨d.toArray⟩] 23)).alloc (.cells #[.bool o', .string ⟨a'.toArray⟩, .string ⟨b'.toArray⟩, .int .i64 n', .string ⟨c'.toArray⟩, .string ⟨d'.toArray⟩] 23) = W0 at BA BB Q ⊢
    refine Calls.mono (HBA.out _) ?_
    rintro e W1 ⟨rfl, hr⟩
    replace BA := BA.reach hr
    replace BB := BB.reach hr
    replace Q := Reach.trans Q hr
    clear hr
    obtain ⟨x0_0, x0_1, x0_2, x0_3, x0_4, x0_5⟩ := BA.six
    have xl0 := BA.lt
    obtain ⟨x1_0, x1_1, x1_2, x1_3, x1_4, x1_5⟩ := BB.six
    have xl1 := BB.lt
    go_wp2_with fail
    clear x0_0 x0_1 x0_2 x0_3 x0_4 x0_5 xl0 x1_0 x1_1 x1_2 x1_3 x1_4 x1_5 xl1
    refine Calls.mono (froms_calls _ (Env.reach HE.out Q)) ?_
    rintro e WF ⟨rfl, hr⟩
    replace Q := Reach.trans Q hr
    clear hr
    go_wp2_with fail
    go_ret
    exact ⟨rfl, Q⟩
  cases hbig2 : bigB a' b' c' d'
  rotate_left
  · rw [hbig] at hba
    rw [hbig2] at hbb
    have HBA := Lib.hid hba
    have HBB := Lib.hid hbb
    clear hba hbb hbig hbig2
    go_enter Tryz.func7, Tryz.ntmps7
    go_wp2_with fail
    have BA : Blk (w.alloc (.cells #[.bool o, .string ⟨a.toArray⟩, .string ⟨b.toArray⟩, .int .i64 n, .string ⟨c.toArray⟩, .string ⟨d.toArray⟩] 23)) (w.heap.size) #[.bool o, .string ⟨a.toArray⟩, .string ⟨b.toArray⟩, .int .i64 n, .string ⟨c.toArray⟩, .string ⟨d.toArray⟩] 23 := by have h := Blk.new w #[.bool o, .string ⟨a.toArray⟩, .string ⟨b.toArray⟩, .int .i64 n, .string ⟨c.toArray⟩, .string ⟨d.toArray⟩] 23; exact h
    have BB : Blk ((w.alloc (.cells #[.bool o, .string ⟨a.toArray⟩, .string ⟨b.toArray⟩, .int .i64 n, .string ⟨c.toArray⟩, .string ⟨d.toArray⟩] 23)).alloc (.cells #[.bool o', .string ⟨a'.toArray⟩, .string ⟨b'.toArray⟩, .int .i64 n', .string ⟨c'.toArray⟩, .string ⟨d'.toArray⟩] 23)) (w.heap.size + 1) #[.bool o', .string ⟨a'.toArray⟩, .string ⟨b'.toArray⟩, .int .i64 n', .string ⟨c'.toArray⟩, .string ⟨d'.toArray⟩] 23 := by have h := Blk.new (w.alloc (.cells #[.bool o, .string ⟨a.toArray⟩, .string ⟨b.toArray⟩, .int .i64 n, .string ⟨c.toArray⟩, .string ⟨d.toArray⟩] 23)) #[.bool o', .string ⟨a'.toArray⟩, .string ⟨b'.toArray⟩, .int .i64 n', .string ⟨c'.toArray⟩, .string ⟨d'.toArray⟩] 23; rw [World.size_alloc] at h; exact h
    replace BA := BA.reach (Reach.alloc (Reach.refl _) (.cells #[.bool o', .string ⟨a'.toArray⟩, .string ⟨b'.toArray⟩, .int .i64 n', .string ⟨c'.toArray⟩, .string ⟨d'.toArray⟩] 23))
    have Q : Reach w _ := Reach.alloc (Reach.alloc (Reach.refl w) (.cells #[.bool o, .string ⟨a.toArray⟩, .string ⟨b.toArray⟩, .int .i64 n, .string ⟨c.toArray⟩, .string ⟨d.toArray⟩] 23)) (.cells #[.bool o', .string ⟨a'.toArray⟩, .string ⟨b'.toArray⟩, .int .i64 n', .string ⟨c'.toArray⟩, .string ⟨d'.toArray⟩] 23)
    generalize (w.alloc (.cells #[.bool o, .string ⟨a.toArray⟩, .string ⟨b.toArray⟩, .int .i64 n, .string ⟨c.toArray⟩, .string ⟨d.toArray⟩] 23)).alloc (.cells #[.bool o', .string ⟨a'.toArray⟩, .string ⟨b'.toArray⟩, .int .i64 n', .string ⟨c'.toArray⟩, .string ⟨d'.toArray⟩] 23) = W0 at BA BB Q ⊢
    refine Calls.mono (HBA.out _) ?_
    rintro e W1 ⟨rfl, hr⟩
    replace BA := BA.reach hr
    replace BB := BB.reach hr
    replace Q := Reach.trans Q hr
    clear hr
    obtain ⟨x0_0, x0_1, x0_2, x0_3, x0_4, x0_5⟩ := BA.six
    have xl0 := BA.lt
    obtain ⟨x1_0, x1_1, x1_2, x1_3, x1_4, x1_5⟩ := BB.six
    have xl1 := BB.lt
    go_wp2_with fail
    clear x0_0 x0_1 x0_2 x0_3 x0_4 x0_5 xl0 x1_0 x1_1 x1_2 x1_3 x1_4 x1_5 xl1
    refine Calls.mono (HBB.out _) ?_
    rintro e W2 ⟨rfl, hr⟩
    replace BA := BA.reach hr
    replace BB := BB.reach hr
    replace Q := Reach.trans Q hr
    clear hr
    obtain ⟨x0_0, x0_1, x0_2, x0_3, x0_4, x0_5⟩ := BA.six
    have xl0 := BA.lt
    obtain ⟨x1_0, x1_1, x1_2, x1_3, x1_4, x1_5⟩ := BB.six
    have xl1 := BB.lt
    go_wp2_with fail
    clear x0_0 x0_1 x0_2 x0_3 x0_4 x0_5 xl0 x1_0 x1_1 x1_2 x1_3 x1_4 x1_5 xl1
    refine Calls.mono (froms_calls _ (Env.reach HE.out Q)) ?_
    rintro e WF ⟨rfl, hr⟩
    replace Q := Reach.trans Q hr
    clear hr
    go_wp2_with fail
    go_ret
    exact ⟨rfl, Q⟩
  rw [hbig] at hba
  rw [hbig2] at hbb
  have HBA := Lib.hid hba
  have HBB := Lib.hid hbb
  clear hba hbb
  obtain ⟨l1, l2, l3, l4⟩ := bigB_no hbig
  obtain ⟨l1', l2', l3', l4'⟩ := bigB_no hbig2
  clear hbig hbig2
  have hca := fun W (hE : Env W) => check_calls o a b n c d W h1 h2 (by omega) (by omega) (by omega) (by omega) hE
  have hcb := fun W (hE : Env W) => check_calls o' a' b' n' c' d' W h1' h2' (by omega) (by omega) (by omega) (by omega) hE
  cases ka : checkB ⟨o, a, b, n, c, d⟩
  · simp only [checkE_no ka] at hca
    have HCA := Lib.hid hca
    clear hca hcb ka
    go_enter Tryz.func7, Tryz.ntmps7
    go_wp2_with fail
    have BA : Blk (w.alloc (.cells #[.bool o, .string ⟨a.toArray⟩, .string ⟨b.toArray⟩, .int .i64 n, .string ⟨c.toArray⟩, .string ⟨d.toArray⟩] 23)) (w.heap.size) #[.bool o, .string ⟨a.toArray⟩, .string ⟨b.toArray⟩, .int .i64 n, .string ⟨c.toArray⟩, .string ⟨d.toArray⟩] 23 := by have h := Blk.new w #[.bool o, .string ⟨a.toArray⟩, .string ⟨b.toArray⟩, .int .i64 n, .string ⟨c.toArray⟩, .string ⟨d.toArray⟩] 23; exact h
    have BB : Blk ((w.alloc (.cells #[.bool o, .string ⟨a.toArray⟩, .string ⟨b.toArray⟩, .int .i64 n, .string ⟨c.toArray⟩, .string ⟨d.toArray⟩] 23)).alloc (.cells #[.bool o', .string ⟨a'.toArray⟩, .string ⟨b'.toArray⟩, .int .i64 n', .string ⟨c'.toArray⟩, .string ⟨d'.toArray⟩] 23)) (w.heap.size + 1) #[.bool o', .string ⟨a'.toArray⟩, .string ⟨b'.toArray⟩, .int .i64 n', .string ⟨c'.toArray⟩, .string ⟨d'.toArray⟩] 23 := by have h := Blk.new (w.alloc (.cells #[.bool o, .string ⟨a.toArray⟩, .string ⟨b.toArray⟩, .int .i64 n, .string ⟨c.toArray⟩, .string ⟨d.toArray⟩] 23)) #[.bool o', .string ⟨a'.toArray⟩, .string ⟨b'.toArray⟩, .int .i64 n', .string ⟨c'.toArray⟩, .string ⟨d'.toArray⟩] 23; rw [World.size_alloc] at h; exact h
    replace BA := BA.reach (Reach.alloc (Reach.refl _) (.cells #[.bool o', .string ⟨a'.toArray⟩, .string ⟨b'.toArray⟩, .int .i64 n', .string ⟨c'.toArray⟩, .string ⟨d'.toArray⟩] 23))
    have Q : Reach w _ := Reach.alloc (Reach.alloc (Reach.refl w) (.cells #[.bool o, .string ⟨a.toArray⟩, .string ⟨b.toArray⟩, .int .i64 n, .string ⟨c.toArray⟩, .string ⟨d.toArray⟩] 23)) (.cells #[.bool o', .string ⟨a'.toArray⟩, .string ⟨b'.toArray⟩, .int .i64 n', .string ⟨c'.toArray⟩, .string ⟨d'.toArray⟩] 23)
    generalize (w.alloc (.cells #[.bool o, .string ⟨a.toArray⟩, .string ⟨b.toArray⟩, .int .i64 n, .string ⟨c.toArray⟩, .string ⟨d.toArray⟩] 23)).alloc (.cells #[.bool o', .string ⟨a'.toArray⟩, .string ⟨b'.toArray⟩, .int .i64 n', .string ⟨c'.toArray⟩, .string ⟨d'.toArray⟩] 23) = W0 at BA BB Q ⊢
    refine Calls.mono (HBA.out _) ?_
    rintro e W1 ⟨rfl, hr⟩
    replace BA := BA.reach hr
    replace BB := BB.reach hr
    replace Q := Reach.trans Q hr
    clear hr
    obtain ⟨x0_0, x0_1, x0_2, x0_3, x0_4, x0_5⟩ := BA.six
    have xl0 := BA.lt
    obtain ⟨x1_0, x1_1, x1_2, x1_3, x1_4, x1_5⟩ := BB.six
    have xl1 := BB.lt
    go_wp2_with fail
    clear x0_0 x0_1 x0_2 x0_3 x0_4 x0_5 xl0 x1_0 x1_1 x1_2 x1_3 x1_4 x1_5 xl1
    refine Calls.mono (HBB.out _) ?_
    rintro e W2 ⟨rfl, hr⟩
    replace BA := BA.reach hr
    replace BB := BB.reach hr
    replace Q := Reach.trans Q hr
    clear hr
    obtain ⟨x0_0, x0_1, x0_2, x0_3, x0_4, x0_5⟩ := BA.six
    have xl0 := BA.lt
    obtain ⟨x1_0, x1_1, x1_2, x1_3, x1_4, x1_5⟩ := BB.six
    have xl1 := BB.lt
    go_wp2_with fail
    clear x0_0 x0_1 x0_2 x0_3 x0_4 x0_5 xl0 x1_0 x1_1 x1_2 x1_3 x1_4 x1_5 xl1
    refine Calls.mono (HCA.out _ (Env.reach HE.out Q)) ?_
    rintro e W3 ⟨rfl, hr⟩
    replace BA := BA.reach hr
    replace BB := BB.reach hr
    replace Q := Reach.trans Q hr
    clear hr
    obtain ⟨x0_0, x0_1, x0_2, x0_3, x0_4, x0_5⟩ := BA.six
    have xl0 := BA.lt
    obtain ⟨x1_0, x1_1, x1_2, x1_3, x1_4, x1_5⟩ := BB.six
    have xl1 := BB.lt
    go_wp2_with fail
    clear x0_0 x0_1 x0_2 x0_3 x0_4 x0_5 xl0 x1_0 x1_1 x1_2 x1_3 x1_4 x1_5 xl1
    refine Calls.mono (froms_calls _ (Env.reach HE.out Q)) ?_
    rintro e WF ⟨rfl, hr⟩
    replace Q := Reach.trans Q hr
    clear hr
    go_wp2_with fail
    go_ret
    exact ⟨rfl, Q⟩
  cases kb : checkB ⟨o', a', b', n', c', d'⟩
  · simp only [checkE_ok ka] at hca
    simp only [checkE_no kb] at hcb
    have HCA := Lib.hid hca
    have HCB := Lib.hid hcb
    clear hca hcb ka kb
    go_enter Tryz.func7, Tryz.ntmps7
    go_wp2_with fail
    have BA : Blk (w.alloc (.cells #[.bool o, .string ⟨a.toArray⟩, .string ⟨b.toArray⟩, .int .i64 n, .string ⟨c.toArray⟩, .string ⟨d.toArray⟩] 23)) (w.heap.size) #[.bool o, .string ⟨a.toArray⟩, .string ⟨b.toArray⟩, .int .i64 n, .string ⟨c.toArray⟩, .string ⟨d.toArray⟩] 23 := by have h := Blk.new w #[.bool o, .string ⟨a.toArray⟩, .string ⟨b.toArray⟩, .int .i64 n, .string ⟨c.toArray⟩, .string ⟨d.toArray⟩] 23; exact h
    have BB : Blk ((w.alloc (.cells #[.bool o, .string ⟨a.toArray⟩, .string ⟨b.toArray⟩, .int .i64 n, .string ⟨c.toArray⟩, .string ⟨d.toArray⟩] 23)).alloc (.cells #[.bool o', .string ⟨a'.toArray⟩, .string ⟨b'.toArray⟩, .int .i64 n', .string ⟨c'.toArray⟩, .string ⟨d'.toArray⟩] 23)) (w.heap.size + 1) #[.bool o', .string ⟨a'.toArray⟩, .string ⟨b'.toArray⟩, .int .i64 n', .string ⟨c'.toArray⟩, .string ⟨d'.toArray⟩] 23 := by have h := Blk.new (w.alloc (.cells #[.bool o, .string ⟨a.toArray⟩, .string ⟨b.toArray⟩, .int .i64 n, .string ⟨c.toArray⟩, .string ⟨d.toArray⟩] 23)) #[.bool o', .string ⟨a'.toArray⟩, .string ⟨b'.toArray⟩, .int .i64 n', .string ⟨c'.toArray⟩, .string ⟨d'.toArray⟩] 23; rw [World.size_alloc] at h; exact h
    replace BA := BA.reach (Reach.alloc (Reach.refl _) (.cells #[.bool o', .string ⟨a'.toArray⟩, .string ⟨b'.toArray⟩, .int .i64 n', .string ⟨c'.toArray⟩, .string ⟨d'.toArray⟩] 23))
    have Q : Reach w _ := Reach.alloc (Reach.alloc (Reach.refl w) (.cells #[.bool o, .string ⟨a.toArray⟩, .string ⟨b.toArray⟩, .int .i64 n, .string ⟨c.toArray⟩, .string ⟨d.toArray⟩] 23)) (.cells #[.bool o', .string ⟨a'.toArray⟩, .string ⟨b'.toArray⟩, .int .i64 n', .string ⟨c'.toArray⟩, .string ⟨d'.toArray⟩] 23)
    generalize (w.alloc (.cells #[.bool o, .string ⟨a.toArray⟩, .string ⟨b.toArray⟩, .int .i64 n, .string ⟨c.toArray⟩, .string ⟨d.toArray⟩] 23)).alloc (.cells #[.bool o', .string ⟨a'.toArray⟩, .string ⟨b'.toArray⟩, .int .i64 n', .string ⟨c'.toArray⟩, .string ⟨d'.toArray⟩] 23) = W0 at BA BB Q ⊢
    refine Calls.mono (HBA.out _) ?_
    rintro e W1 ⟨rfl, hr⟩
    replace BA := BA.reach hr
    replace BB := BB.reach hr
    replace Q := Reach.trans Q hr
    clear hr
    obtain ⟨x0_0, x0_1, x0_2, x0_3, x0_4, x0_5⟩ := BA.six
    have xl0 := BA.lt
    obtain ⟨x1_0, x1_1, x1_2, x1_3, x1_4, x1_5⟩ := BB.six
    have xl1 := BB.lt
    go_wp2_with fail
    clear x0_0 x0_1 x0_2 x0_3 x0_4 x0_5 xl0 x1_0 x1_1 x1_2 x1_3 x1_4 x1_5 xl1
    refine Calls.mono (HBB.out _) ?_
    rintro e W2 ⟨rfl, hr⟩
    replace BA := BA.reach hr
    replace BB := BB.reach hr
    replace Q := Reach.trans Q hr
    clear hr
    obtain ⟨x0_0, x0_1, x0_2, x0_3, x0_4, x0_5⟩ := BA.six
    have xl0 := BA.lt
    obtain ⟨x1_0, x1_1, x1_2, x1_3, x1_4, x1_5⟩ := BB.six
    have xl1 := BB.lt
    go_wp2_with fail
    clear x0_0 x0_1 x0_2 x0_3 x0_4 x0_5 xl0 x1_0 x1_1 x1_2 x1_3 x1_4 x1_5 xl1
    refine Calls.mono (HCA.out _ (Env.reach HE.out Q)) ?_
    rintro e W3 ⟨rfl, hr⟩
    replace BA := BA.reach hr
    replace BB := BB.reach hr
    replace Q := Reach.trans Q hr
    clear hr
    obtain ⟨x0_0, x0_1, x0_2, x0_3, x0_4, x0_5⟩ := BA.six
    have xl0 := BA.lt
    obtain ⟨x1_0, x1_1, x1_2, x1_3, x1_4, x1_5⟩ := BB.six
    have xl1 := BB.lt
    go_wp2_with fail
    clear x0_0 x0_1 x0_2 x0_3 x0_4 x0_5 xl0 x1_0 x1_1 x1_2 x1_3 x1_4 x1_5 xl1
    refine Calls.mono (HCB.out _ (Env.reach HE.out Q)) ?_
    rintro e W4 ⟨rfl, hr⟩
    replace BA := BA.reach hr
    replace BB := BB.reach hr
    replace Q := Reach.trans Q hr
    clear hr
    obtain ⟨x0_0, x0_1, x0_2, x0_3, x0_4, x0_5⟩ := BA.six
    have xl0 := BA.lt
    obtain ⟨x1_0, x1_1, x1_2, x1_3, x1_4, x1_5⟩ := BB.six
    have xl1 := BB.lt
    go_wp2_with fail
    clear x0_0 x0_1 x0_2 x0_3 x0_4 x0_5 xl0 x1_0 x1_1 x1_2 x1_3 x1_4 x1_5 xl1
    refine Calls.mono (froms_calls _ (Env.reach HE.out Q)) ?_
    rintro e WF ⟨rfl, hr⟩
    replace Q := Reach.trans Q hr
    clear hr
    go_wp2_with fail
    go_ret
    exact ⟨rfl, Q⟩
  simp only [checkE_ok ka] at hca
  simp only [checkE_ok kb] at hcb
  have HCA := Lib.hid hca
  have HCB := Lib.hid hcb
  clear hca hcb
  cases o
  rotate_left
  · clear ka kb
    go_enter Tryz.func7, Tryz.ntmps7
    go_wp2_with fail
    have BA : Blk (w.alloc (.cells #[.bool true, .string ⟨a.toArray⟩, .string ⟨b.toArray⟩, .int .i64 n, .string ⟨c.toArray⟩, .string ⟨d.toArray⟩] 23)) (w.heap.size) #[.bool true, .string ⟨a.toArray⟩, .string ⟨b.toArray⟩, .int .i64 n, .string ⟨c.toArray⟩, .string ⟨d.toArray⟩] 23 := by have h := Blk.new w #[.bool true, .string ⟨a.toArray⟩, .string ⟨b.toArray⟩, .int .i64 n, .string ⟨c.toArray⟩, .string ⟨d.toArray⟩] 23; exact h
    have BB : Blk ((w.alloc (.cells #[.bool true, .string ⟨a.toArray⟩, .string ⟨b.toArray⟩, .int .i64 n, .string ⟨c.toArray⟩, .string ⟨d.toArray⟩] 23)).alloc (.cells #[.bool o', .string ⟨a'.toArray⟩, .string ⟨b'.toArray⟩, .int .i64 n', .string ⟨c'.toArray⟩, .string ⟨d'.toArray⟩] 23)) (w.heap.size + 1) #[.bool o', .string ⟨a'.toArray⟩, .string ⟨b'.toArray⟩, .int .i64 n', .string ⟨c'.toArray⟩, .string ⟨d'.toArray⟩] 23 := by have h := Blk.new (w.alloc (.cells #[.bool true, .string ⟨a.toArray⟩, .string ⟨b.toArray⟩, .int .i64 n, .string ⟨c.toArray⟩, .string ⟨d.toArray⟩] 23)) #[.bool o', .string ⟨a'.toArray⟩, .string ⟨b'.toArray⟩, .int .i64 n', .string ⟨c'.toArray⟩, .string ⟨d'.toArray⟩] 23; rw [World.size_alloc] at h; exact h
    replace BA := BA.reach (Reach.alloc (Reach.refl _) (.cells #[.bool o', .string ⟨a'.toArray⟩, .string ⟨b'.toArray⟩, .int .i64 n', .string ⟨c'.toArray⟩, .string ⟨d'.toArray⟩] 23))
    have Q : Reach w _ := Reach.alloc (Reach.alloc (Reach.refl w) (.cells #[.bool true, .string ⟨a.toArray⟩, .string ⟨b.toArray⟩, .int .i64 n, .string ⟨c.toArray⟩, .string ⟨d.toArray⟩] 23)) (.cells #[.bool o', .string ⟨a'.toArray⟩, .string ⟨b'.toArray⟩, .int .i64 n', .string ⟨c'.toArray⟩, .string ⟨d'.toArray⟩] 23)
    generalize (w.alloc (.cells #[.bool true, .string ⟨a.toArray⟩, .string ⟨b.toArray⟩, .int .i64 n, .string ⟨c.toArray⟩, .string ⟨d.toArray⟩] 23)).alloc (.cells #[.bool o', .string ⟨a'.toArray⟩, .string ⟨b'.toArray⟩, .int .i64 n', .string ⟨c'.toArray⟩, .string ⟨d'.toArray⟩] 23) = W0 at BA BB Q ⊢
    refine Calls.mono (HBA.out _) ?_
    rintro e W1 ⟨rfl, hr⟩
    replace BA := BA.reach hr
    replace BB := BB.reach hr
    replace Q := Reach.trans Q hr
    clear hr
    obtain ⟨x0_0, x0_1, x0_2, x0_3, x0_4, x0_5⟩ := BA.six
    have xl0 := BA.lt
    obtain ⟨x1_0, x1_1, x1_2, x1_3, x1_4, x1_5⟩ := BB.six
    have xl1 := BB.lt
    go_wp2_with fail
    clear x0_0 x0_1 x0_2 x0_3 x0_4 x0_5 xl0 x1_0 x1_1 x1_2 x1_3 x1_4 x1_5 xl1
    refine Calls.mono (HBB.out _) ?_
    rintro e W2 ⟨rfl, hr⟩
    replace BA := BA.reach hr
    replace BB := BB.reach hr
    replace Q := Reach.trans Q hr
    clear hr
    obtain ⟨x0_0, x0_1, x0_2, x0_3, x0_4, x0_5⟩ := BA.six
    have xl0 := BA.lt
    obtain ⟨x1_0, x1_1, x1_2, x1_3, x1_4, x1_5⟩ := BB.six
    have xl1 := BB.lt
    go_wp2_with fail
    clear x0_0 x0_1 x0_2 x0_3 x0_4 x0_5 xl0 x1_0 x1_1 x1_2 x1_3 x1_4 x1_5 xl1
    refine Calls.mono (HCA.out _ (Env.reach HE.out Q)) ?_
    rintro e W3 ⟨rfl, hr⟩
    replace BA := BA.reach hr
    replace BB := BB.reach hr
    replace Q := Reach.trans Q hr
    clear hr
    obtain ⟨x0_0, x0_1, x0_2, x0_3, x0_4, x0_5⟩ := BA.six
    have xl0 := BA.lt
    obtain ⟨x1_0, x1_1, x1_2, x1_3, x1_4, x1_5⟩ := BB.six
    have xl1 := BB.lt
    go_wp2_with fail
    clear x0_0 x0_1 x0_2 x0_3 x0_4 x0_5 xl0 x1_0 x1_1 x1_2 x1_3 x1_4 x1_5 xl1
    refine Calls.mono (HCB.out _ (Env.reach HE.out Q)) ?_
    rintro e W4 ⟨rfl, hr⟩
    replace BA := BA.reach hr
    replace BB := BB.reach hr
    replace Q := Reach.trans Q hr
    clear hr
    obtain ⟨x0_0, x0_1, x0_2, x0_3, x0_4, x0_5⟩ := BA.six
    have xl0 := BA.lt
    obtain ⟨x1_0, x1_1, x1_2, x1_3, x1_4, x1_5⟩ := BB.six
    have xl1 := BB.lt
    go_wp2_with fail
    clear x0_0 x0_1 x0_2 x0_3 x0_4 x0_5 xl0 x1_0 x1_1 x1_2 x1_3 x1_4 x1_5 xl1
    refine Calls.mono (froms_calls _ (Env.reach HE.out Q)) ?_
    rintro e WF ⟨rfl, hr⟩
    replace Q := Reach.trans Q hr
    clear hr
    go_wp2_with fail
    go_ret
    exact ⟨rfl, Q⟩
  cases o'
  rotate_left
  · clear ka kb
    go_enter Tryz.func7, Tryz.ntmps7
    go_wp2_with fail
    have BA : Blk (w.alloc (.cells #[.bool false, .string ⟨a.toArray⟩, .string ⟨b.toArray⟩, .int .i64 n, .string ⟨c.toArray⟩, .string ⟨d.toArray⟩] 23)) (w.heap.size) #[.bool false, .string ⟨a.toArray⟩, .string ⟨b.toArray⟩, .int .i64 n, .string ⟨c.toArray⟩, .string ⟨d.toArray⟩] 23 := by have h := Blk.new w #[.bool false, .string ⟨a.toArray⟩, .string ⟨b.toArray⟩, .int .i64 n, .string ⟨c.toArray⟩, .string ⟨d.toArray⟩] 23; exact h
    have BB : Blk ((w.alloc (.cells #[.bool false, .string ⟨a.toArray⟩, .string ⟨b.toArray⟩, .int .i64 n, .string ⟨c.toArray⟩, .string ⟨d.toArray⟩] 23)).alloc (.cells #[.bool true, .string ⟨a'.toArray⟩, .string ⟨b'.toArray⟩, .int .i64 n', .string ⟨c'.toArray⟩, .string ⟨d'.toArray⟩] 23)) (w.heap.size + 1) #[.bool true, .string ⟨a'.toArray⟩, .string ⟨b'.toArray⟩, .int .i64 n', .string ⟨c'.toArray⟩, .string ⟨d'.toArray⟩] 23 := by have h := Blk.new (w.alloc (.cells #[.bool false, .string ⟨a.toArray⟩, .string ⟨b.toArray⟩, .int .i64 n, .string ⟨c.toArray⟩, .string ⟨d.toArray⟩] 23)) #[.bool true, .string ⟨a'.toArray⟩, .string ⟨b'.toArray⟩, .int .i64 n', .string ⟨c'.toArray⟩, .string ⟨d'.toArray⟩] 23; rw [World.size_alloc] at h; exact h
    replace BA := BA.reach (Reach.alloc (Reach.refl _) (.cells #[.bool true, .string ⟨a'.toArray⟩, .string ⟨b'.toArray⟩, .int .i64 n', .string ⟨c'.toArray⟩, .string ⟨d'.toArray⟩] 23))
    have Q : Reach w _ := Reach.alloc (Reach.alloc (Reach.refl w) (.cells #[.bool false, .string ⟨a.toArray⟩, .string ⟨b.toArray⟩, .int .i64 n, .string ⟨c.toArray⟩, .string ⟨d.toArray⟩] 23)) (.cells #[.bool true, .string ⟨a'.toArray⟩, .string ⟨b'.toArray⟩, .int .i64 n', .string ⟨c'.toArray⟩, .string ⟨d'.toArray⟩] 23)
    generalize (w.alloc (.cells #[.bool false, .string ⟨a.toArray⟩, .string ⟨b.toArray⟩, .int .i64 n, .string ⟨c.toArray⟩, .string ⟨d.toArray⟩] 23)).alloc (.cells #[.bool true, .string ⟨a'.toArray⟩, .string ⟨b'.toArray⟩, .int .i64 n', .string ⟨c'.toArray⟩, .string ⟨d'.toArray⟩] 23) = W0 at BA BB Q ⊢
    refine Calls.mono (HBA.out _) ?_
    rintro e W1 ⟨rfl, hr⟩
    replace BA := BA.reach hr
    replace BB := BB.reach hr
    replace Q := Reach.trans Q hr
    clear hr
    obtain ⟨x0_0, x0_1, x0_2, x0_3, x0_4, x0_5⟩ := BA.six
    have xl0 := BA.lt
    obtain ⟨x1_0, x1_1, x1_2, x1_3, x1_4, x1_5⟩ := BB.six
    have xl1 := BB.lt
    go_wp2_with fail
    clear x0_0 x0_1 x0_2 x0_3 x0_4 x0_5 xl0 x1_0 x1_1 x1_2 x1_3 x1_4 x1_5 xl1
    refine Calls.mono (HBB.out _) ?_
    rintro e W2 ⟨rfl, hr⟩
    replace BA := BA.reach hr
    replace BB := BB.reach hr
    replace Q := Reach.trans Q hr
    clear hr
    obtain ⟨x0_0, x0_1, x0_2, x0_3, x0_4, x0_5⟩ := BA.six
    have xl0 := BA.lt
    obtain ⟨x1_0, x1_1, x1_2, x1_3, x1_4, x1_5⟩ := BB.six
    have xl1 := BB.lt
    go_wp2_with fail
    clear x0_0 x0_1 x0_2 x0_3 x0_4 x0_5 xl0 x1_0 x1_1 x1_2 x1_3 x1_4 x1_5 xl1
    refine Calls.mono (HCA.out _ (Env.reach HE.out Q)) ?_
    rintro e W3 ⟨rfl, hr⟩
    replace BA := BA.reach hr
    replace BB := BB.reach hr
    replace Q := Reach.trans Q hr
    clear hr
    obtain ⟨x0_0, x0_1, x0_2, x0_3, x0_4, x0_5⟩ := BA.six
    have xl0 := BA.lt
    obtain ⟨x1_0, x1_1, x1_2, x1_3, x1_4, x1_5⟩ := BB.six
    have xl1 := BB.lt
    go_wp2_with fail
    clear x0_0 x0_1 x0_2 x0_3 x0_4 x0_5 xl0 x1_0 x1_1 x1_2 x1_3 x1_4 x1_5 xl1
    refine Calls.mono (HCB.out _ (Env.reach HE.out Q)) ?_
    rintro e W4 ⟨rfl, hr⟩
    replace BA := BA.reach hr
    replace BB := BB.reach hr
    replace Q := Reach.trans Q hr
    clear hr
    obtain ⟨x0_0, x0_1, x0_2, x0_3, x0_4, x0_5⟩ := BA.six
    have xl0 := BA.lt
    obtain ⟨x1_0, x1_1, x1_2, x1_3, x1_4, x1_5⟩ := BB.six
    have xl1 := BB.lt
    go_wp2_with fail
    clear x0_0 x0_1 x0_2 x0_3 x0_4 x0_5 xl0 x1_0 x1_1 x1_2 x1_3 x1_4 x1_5 xl1
    refine Calls.mono (froms_calls _ (Env.reach HE.out Q)) ?_
    rintro e WF ⟨rfl, hr⟩
    replace Q := Reach.trans Q hr
    clear hr
    go_wp2_with fail
    go_ret
    exact ⟨rfl, Q⟩
  have hoa := fun W (hE : Env W) => of_calls false a b n c d W h1 h2 (by omega) (by omega) (by omega) (by omega) hE
  have hob := fun W (hE : Env W) => of_calls false a' b' n' c' d' W h1' h2' (by omega) (by omega) (by omega) (by omega) hE
  have hoc := fun W (hE : Env W) => of_calls false a b n [47] [] W h1 h2 (by omega) (by omega) (by simp) (by simp) hE
  have e1 := org_apart ⟨false, a, b, n, c, d⟩ ⟨false, a', b', n', c', d'⟩ ka kb rfl rfl
  have e2 := org_rooted ⟨false, a, b, n, c, d⟩ ka rfl
  simp only [rooted] at e1 e2
  generalize orgOf ⟨false, a, b, n, c, d⟩ = x at *
  generalize orgOf ⟨false, a', b', n', c', d'⟩ = y at *
  generalize orgOf ⟨false, a, b, n, [47], []⟩ = z at *
  have hs1 := fun W => osame_calls x y W
  have hs2 := fun W => osame_calls x z W
  rw [e1] at hs1
  rw [e2] at hs2
  clear e1 e2 ka kb
  obtain ⟨x0, x1, x2, x3⟩ := x
  obtain ⟨y0, y1, y2, y3⟩ := y
  obtain ⟨z0, z1, z2, z3⟩ := z
  unfold orgV at hoa hob hoc hs1 hs2
  have HOA := Lib.hid hoa
  have HOB := Lib.hid hob
  have HOC := Lib.hid hoc
  have HS2 := Lib.hid hs2
  clear hoa hob hoc hs2
  cases ea : (a == a') <;> cases eb : (b == b') <;> cases en : (n == n')
  all_goals
    simp only [ea, eb, en, Bool.and_true, Bool.and_false] at hs1
    have HS1 := Lib.hid hs1
    clear hs1
    go_enter Tryz.func7, Tryz.ntmps7
    go_wp2_with fail
    have BA : Blk (w.alloc (.cells #[.bool false, .string ⟨a.toArray⟩, .string ⟨b.toArray⟩, .int .i64 n, .string ⟨c.toArray⟩, .string ⟨d.toArray⟩] 23)) (w.heap.size) #[.bool false, .string ⟨a.toArray⟩, .string ⟨b.toArray⟩, .int .i64 n, .string ⟨c.toArray⟩, .string ⟨d.toArray⟩] 23 := by have h := Blk.new w #[.bool false, .string ⟨a.toArray⟩, .string ⟨b.toArray⟩, .int .i64 n, .string ⟨c.toArray⟩, .string ⟨d.toArray⟩] 23; exact h
    have BB : Blk ((w.alloc (.cells #[.bool false, .string ⟨a.toArray⟩, .string ⟨b.toArray⟩, .int .i64 n, .string ⟨c.toArray⟩, .string ⟨d.toArray⟩] 23)).alloc (.cells #[.bool false, .string ⟨a'.toArray⟩, .string ⟨b'.toArray⟩, .int .i64 n', .string ⟨c'.toArray⟩, .string ⟨d'.toArray⟩] 23)) (w.heap.size + 1) #[.bool false, .string ⟨a'.toArray⟩, .string ⟨b'.toArray⟩, .int .i64 n', .string ⟨c'.toArray⟩, .string ⟨d'.toArray⟩] 23 := by have h := Blk.new (w.alloc (.cells #[.bool false, .string ⟨a.toArray⟩, .string ⟨b.toArray⟩, .int .i64 n, .string ⟨c.toArray⟩, .string ⟨d.toArray⟩] 23)) #[.bool false, .string ⟨a'.toArray⟩, .string ⟨b'.toArray⟩, .int .i64 n', .string ⟨c'.toArray⟩, .string ⟨d'.toArray⟩] 23; rw [World.size_alloc] at h; exact h
    replace BA := BA.reach (Reach.alloc (Reach.refl _) (.cells #[.bool false, .string ⟨a'.toArray⟩, .string ⟨b'.toArray⟩, .int .i64 n', .string ⟨c'.toArray⟩, .string ⟨d'.toArray⟩] 23))
    have Q : Reach w _ := Reach.alloc (Reach.alloc (Reach.refl w) (.cells #[.bool false, .string ⟨a.toArray⟩, .string ⟨b.toArray⟩, .int .i64 n, .string ⟨c.toArray⟩, .string ⟨d.toArray⟩] 23)) (.cells #[.bool false, .string ⟨a'.toArray⟩, .string ⟨b'.toArray⟩, .int .i64 n', .string ⟨c'.toArray⟩, .string ⟨d'.toArray⟩] 23)
    generalize (w.alloc (.cells #[.bool false, .string ⟨a.toArray⟩, .string ⟨b.toArray⟩, .int .i64 n, .string ⟨c.toArray⟩, .string ⟨d.toArray⟩] 23)).alloc (.cells #[.bool false, .string ⟨a'.toArray⟩, .string ⟨b'.toArray⟩, .int .i64 n', .string ⟨c'.toArray⟩, .string ⟨d'.toArray⟩] 23) = W0 at BA BB Q ⊢
    refine Calls.mono (HBA.out _) ?_
    rintro e W1 ⟨rfl, hr⟩
    replace BA := BA.reach hr
    replace BB := BB.reach hr
    replace Q := Reach.trans Q hr
    clear hr
    obtain ⟨x0_0, x0_1, x0_2, x0_3, x0_4, x0_5⟩ := BA.six
    have xl0 := BA.lt
    obtain ⟨x1_0, x1_1, x1_2, x1_3, x1_4, x1_5⟩ := BB.six
    have xl1 := BB.lt
    go_wp2_with fail
    clear x0_0 x0_1 x0_2 x0_3 x0_4 x0_5 xl0 x1_0 x1_1 x1_2 x1_3 x1_4 x1_5 xl1
    refine Calls.mono (HBB.out _) ?_
    rintro e W2 ⟨rfl, hr⟩
    replace BA := BA.reach hr
    replace BB := BB.reach hr
    replace Q := Reach.trans Q hr
    clear hr
    obtain ⟨x0_0, x0_1, x0_2, x0_3, x0_4, x0_5⟩ := BA.six
    have xl0 := BA.lt
    obtain ⟨x1_0, x1_1, x1_2, x1_3, x1_4, x1_5⟩ := BB.six
    have xl1 := BB.lt
    go_wp2_with fail
    clear x0_0 x0_1 x0_2 x0_3 x0_4 x0_5 xl0 x1_0 x1_1 x1_2 x1_3 x1_4 x1_5 xl1
    refine Calls.mono (HCA.out _ (Env.reach HE.out Q)) ?_
    rintro e W3 ⟨rfl, hr⟩
    replace BA := BA.reach hr
    replace BB := BB.reach hr
    replace Q := Reach.trans Q hr
    clear hr
    obtain ⟨x0_0, x0_1, x0_2, x0_3, x0_4, x0_5⟩ := BA.six
    have xl0 := BA.lt
    obtain ⟨x1_0, x1_1, x1_2, x1_3, x1_4, x1_5⟩ := BB.six
    have xl1 := BB.lt
    go_wp2_with fail
    clear x0_0 x0_1 x0_2 x0_3 x0_4 x0_5 xl0 x1_0 x1_1 x1_2 x1_3 x1_4 x1_5 xl1
    refine Calls.mono (HCB.out _ (Env.reach HE.out Q)) ?_
    rintro e W4 ⟨rfl, hr⟩
    replace BA := BA.reach hr
    replace BB := BB.reach hr
    replace Q := Reach.trans Q hr
    clear hr
    obtain ⟨x0_0, x0_1, x0_2, x0_3, x0_4, x0_5⟩ := BA.six
    have xl0 := BA.lt
    obtain ⟨x1_0, x1_1, x1_2, x1_3, x1_4, x1_5⟩ := BB.six
    have xl1 := BB.lt
    go_wp2_with fail
    clear x0_0 x0_1 x0_2 x0_3 x0_4 x0_5 xl0 x1_0 x1_1 x1_2 x1_3 x1_4 x1_5 xl1
    have BC := Blk.new W4 #[.bool false, .string ⟨a.toArray⟩, .string ⟨b.toArray⟩, .int .i64 n, .string ⟨#[47]⟩, .string ⟨#[]⟩] 23
    replace BA := BA.reach (Reach.alloc (Reach.refl _) (.cells #[.bool false, .string ⟨a.toArray⟩, .string ⟨b.toArray⟩, .int .i64 n, .string ⟨#[47]⟩, .string ⟨#[]⟩] 23))
    replace BB := BB.reach (Reach.alloc (Reach.refl _) (.cells #[.bool false, .string ⟨a.toArray⟩, .string ⟨b.toArray⟩, .int .i64 n, .string ⟨#[47]⟩, .string ⟨#[]⟩] 23))
    replace Q := Reach.alloc Q (.cells #[.bool false, .string ⟨a.toArray⟩, .string ⟨b.toArray⟩, .int .i64 n, .string ⟨#[47]⟩, .string ⟨#[]⟩] 23)
    generalize W4.alloc (.cells #[.bool false, .string ⟨a.toArray⟩, .string ⟨b.toArray⟩, .int .i64 n, .string ⟨#[47]⟩, .string ⟨#[]⟩] 23) = X4 at BC BA BB Q ⊢
    generalize W4.heap.size = nBC at *
    obtain ⟨x0_0, x0_1, x0_2, x0_3, x0_4, x0_5⟩ := BA.six
    have xl0 := BA.lt
    obtain ⟨x1_0, x1_1, x1_2, x1_3, x1_4, x1_5⟩ := BB.six
    have xl1 := BB.lt
    obtain ⟨x2_0, x2_1, x2_2, x2_3, x2_4, x2_5⟩ := BC.six
    have xl2 := BC.lt
    clear BA BB BC
    go_wp2_with (first | (go_at_call 29; (with_reducible refine Calls.mono (froms_calls _ (Env.reach HE.out (by (repeat (first | (with_reducible assumption) | (with_reducible exact Reach.refl _) | (with_reducible refine Reach.alloc ?_ _) | (with_reducible refine Reach.drew ?_) | (with_reducible refine Reach.drewN ?_ _) | (with_reducible refine Reach.grow ?_ _ _) | (with_reducible refine Reach.setCell ?_ ?_ _) | (with_reducible refine Reach.trans ?_ (by with_reducible assumption)) | (show _ ≤ Addr.block _; first | (exact Nat.le_refl _) | (show (_ : Nat) ≤ _; omega)) | (simp; done) | (simp; omega)))))) ?_); rintro e w' ⟨rfl, hb⟩; obtain ⟨hc, hf, hz⟩ := Reach.facts hb) | (go_at_call 30; (with_reducible refine Calls.mono (HOA.out _ (Env.reach HE.out (by (repeat (first | (with_reducible assumption) | (with_reducible exact Reach.refl _) | (with_reducible refine Reach.alloc ?_ _) | (with_reducible refine Reach.drew ?_) | (with_reducible refine Reach.drewN ?_ _) | (with_reducible refine Reach.grow ?_ _ _) | (with_reducible refine Reach.setCell ?_ ?_ _) | (with_reducible refine Reach.trans ?_ (by with_reducible assumption)) | (show _ ≤ Addr.block _; first | (exact Nat.le_refl _) | (show (_ : Nat) ≤ _; omega)) | (simp; done) | (simp; omega)))))) ?_); rintro e w' ⟨rfl, hb⟩; obtain ⟨hc, hf, hz⟩ := Reach.facts hb) | (go_at_call 30; (with_reducible refine Calls.mono (HOB.out _ (Env.reach HE.out (by (repeat (first | (with_reducible assumption) | (with_reducible exact Reach.refl _) | (with_reducible refine Reach.alloc ?_ _) | (with_reducible refine Reach.drew ?_) | (with_reducible refine Reach.drewN ?_ _) | (with_reducible refine Reach.grow ?_ _ _) | (with_reducible refine Reach.setCell ?_ ?_ _) | (with_reducible refine Reach.trans ?_ (by with_reducible assumption)) | (show _ ≤ Addr.block _; first | (exact Nat.le_refl _) | (show (_ : Nat) ≤ _; omega)) | (simp; done) | (simp; omega)))))) ?_); rintro e w' ⟨rfl, hb⟩; obtain ⟨hc, hf, hz⟩ := Reach.facts hb) | (go_at_call 30; (with_reducible refine Calls.mono (HOC.out _ (Env.reach HE.out (by (repeat (first | (with_reducible assumption) | (with_reducible exact Reach.refl _) | (with_reducible refine Reach.alloc ?_ _) | (with_reducible refine Reach.drew ?_) | (with_reducible refine Reach.drewN ?_ _) | (with_reducible refine Reach.grow ?_ _ _) | (with_reducible refine Reach.setCell ?_ ?_ _) | (with_reducible refine Reach.trans ?_ (by with_reducible assumption)) | (show _ ≤ Addr.block _; first | (exact Nat.le_refl _) | (show (_ : Nat) ≤ _; omega)) | (simp; done) | (simp; omega)))))) ?_); rintro e w' ⟨rfl, hb⟩; obtain ⟨hc, hf, hz⟩ := Reach.facts hb) | (go_at_call 34; (with_reducible refine Calls.mono (HS1.out _) ?_); rintro e w' ⟨rfl, hb⟩; obtain ⟨hc, hf, hz⟩ := Reach.facts hb) | (go_at_call 34; (with_reducible refine Calls.mono (HS2.out _) ?_); rintro e w' ⟨rfl, hb⟩; obtain ⟨hc, hf, hz⟩ := Reach.facts hb) | ((with_reducible refine wp_region_quiet_below (by kernel_rfl) (by kernel_rfl) ?_); (repeat (any_goals (first | (go_big_quiet_step ((first | (go_at_call 29; with_reducible exact reg_reach (froms_calls _ (Env.reach HE.out (by (repeat (first | (with_reducible assumption) | (with_reducible exact Reach.refl _) | (with_reducible refine Reach.alloc ?_ _) | (with_reducible refine Reach.drew ?_) | (with_reducible refine Reach.drewN ?_ _) | (with_reducible refine Reach.grow ?_ _ _) | (with_reducible refine Reach.setCell ?_ ?_ _) | (with_reducible refine Reach.trans ?_ (by with_reducible assumption)) | (show _ ≤ Addr.block _; first | (exact Nat.le_refl _) | (show (_ : Nat) ≤ _; omega)) | (simp; done) | (simp; omega))))))) | (go_at_call 30; with_reducible exact reg_reach (HOA.out _ (Env.reach HE.out (by (repeat (first | (with_reducible assumption) | (with_reducible exact Reach.refl _) | (with_reducible refine Reach.alloc ?_ _) | (with_reducible refine Reach.drew ?_) | (with_reducible refine Reach.drewN ?_ _) | (with_reducible refine Reach.grow ?_ _ _) | (with_reducible refine Reach.setCell ?_ ?_ _) | (with_reducible refine Reach.trans ?_ (by with_reducible assumption)) | (show _ ≤ Addr.block _; first | (exact Nat.le_refl _) | (show (_ : Nat) ≤ _; omega)) | (simp; done) | (simp; omega))))))) | (go_at_call 30; with_reducible exact reg_reach (HOB.out _ (Env.reach HE.out (by (repeat (first | (with_reducible assumption) | (with_reducible exact Reach.refl _) | (with_reducible refine Reach.alloc ?_ _) | (with_reducible refine Reach.drew ?_) | (with_reducible refine Reach.drewN ?_ _) | (with_reducible refine Reach.grow ?_ _ _) | (with_reducible refine Reach.setCell ?_ ?_ _) | (with_reducible refine Reach.trans ?_ (by with_reducible assumption)) | (show _ ≤ Addr.block _; first | (exact Nat.le_refl _) | (show (_ : Nat) ≤ _; omega)) | (simp; done) | (simp; omega))))))) | (go_at_call 30; with_reducible exact reg_reach (HOC.out _ (Env.reach HE.out (by (repeat (first | (with_reducible assumption) | (with_reducible exact Reach.refl _) | (with_reducible refine Reach.alloc ?_ _) | (with_reducible refine Reach.drew ?_) | (with_reducible refine Reach.drewN ?_ _) | (with_reducible refine Reach.grow ?_ _ _) | (with_reducible refine Reach.setCell ?_ ?_ _) | (with_reducible refine Reach.trans ?_ (by with_reducible assumption)) | (show _ ≤ Addr.block _; first | (exact Nat.le_refl _) | (show (_ : Nat) ≤ _; omega)) | (simp; done) | (simp; omega))))))) | (go_at_call 34; with_reducible exact reg_reach (HS1.out _)) | (go_at_call 34; with_reducible exact reg_reach (HS2.out _))))) | (quiet_step ((first | (go_at_call 29; with_reducible exact reg_reach (froms_calls _ (Env.reach HE.out (by (repeat (first | (with_reducible assumption) | (with_reducible exact Reach.refl _) | (with_reducible refine Reach.alloc ?_ _) | (with_reducible refine Reach.drew ?_) | (with_reducible refine Reach.drewN ?_ _) | (with_reducible refine Reach.grow ?_ _ _) | (with_reducible refine Reach.setCell ?_ ?_ _) | (with_reducible refine Reach.trans ?_ (by with_reducible assumption)) | (show _ ≤ Addr.block _; first | (exact Nat.le_refl _) | (show (_ : Nat) ≤ _; omega)) | (simp; done) | (simp; omega))))))) | (go_at_call 30; with_reducible exact reg_reach (HOA.out _ (Env.reach HE.out (by (repeat (first | (with_reducible assumption) | (with_reducible exact Reach.refl _) | (with_reducible refine Reach.alloc ?_ _) | (with_reducible refine Reach.drew ?_) | (with_reducible refine Reach.drewN ?_ _) | (with_reducible refine Reach.grow ?_ _ _) | (with_reducible refine Reach.setCell ?_ ?_ _) | (with_reducible refine Reach.trans ?_ (by with_reducible assumption)) | (show _ ≤ Addr.block _; first | (exact Nat.le_refl _) | (show (_ : Nat) ≤ _; omega)) | (simp; done) | (simp; omega))))))) | (go_at_call 30; with_reducible exact reg_reach (HOB.out _ (Env.reach HE.out (by (repeat (first | (with_reducible assumption) | (with_reducible exact Reach.refl _) | (with_reducible refine Reach.alloc ?_ _) | (with_reducible refine Reach.drew ?_) | (with_reducible refine Reach.drewN ?_ _) | (with_reducible refine Reach.grow ?_ _ _) | (with_reducible refine Reach.setCell ?_ ?_ _) | (with_reducible refine Reach.trans ?_ (by with_reducible assumption)) | (show _ ≤ Addr.block _; first | (exact Nat.le_refl _) | (show (_ : Nat) ≤ _; omega)) | (simp; done) | (simp; omega))))))) | (go_at_call 30; with_reducible exact reg_reach (HOC.out _ (Env.reach HE.out (by (repeat (first | (with_reducible assumption) | (with_reducible exact Reach.refl _) | (with_reducible refine Reach.alloc ?_ _) | (with_reducible refine Reach.drew ?_) | (with_reducible refine Reach.drewN ?_ _) | (with_reducible refine Reach.grow ?_ _ _) | (with_reducible refine Reach.setCell ?_ ?_ _) | (with_reducible refine Reach.trans ?_ (by with_reducible assumption)) | (show _ ≤ Addr.block _; first | (exact Nat.le_refl _) | (show (_ : Nat) ≤ _; omega)) | (simp; done) | (simp; omega))))))) | (go_at_call 34; with_reducible exact reg_reach (HS1.out _)) | (go_at_call 34; with_reducible exact reg_reach (HS2.out _))))) | (refine wpQuiet_step (fun K hK => ?_); go_simp; split <;> (refine hK _ ?_; clear hK K))))); all_goals (refine wpQuiet_nil ?_; intro _ hw'; obtain ⟨⟨dq, osq⟩, hw''⟩ := hw'; subst hw'')))
    go_ret
    exact ⟨rfl, by (repeat (first | (with_reducible assumption) | (with_reducible exact Reach.refl _) | (with_reducible refine Reach.alloc ?_ _) | (with_reducible refine Reach.drew ?_) | (with_reducible refine Reach.drewN ?_ _) | (with_reducible refine Reach.grow ?_ _ _) | (with_reducible refine Reach.setCell ?_ ?_ _) | (with_reducible refine Reach.trans ?_ (by with_reducible assumption)) | (show _ ≤ Addr.block _; first | (exact Nat.le_refl _) | (show (_ : Nat) ≤ _; omega)) | (simp; done) | (simp; omega)))⟩
end Go.Proofs.YtbpijmmhgdemlaaGreatDoor
