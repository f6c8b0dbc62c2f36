/- The law ResolveTwice, walked. -/
import Derived.Test.YtbpijmmhgdemlaaGreatDoorProg
import Derived.Test.YtbpijmmhgdemlaaGreatDoorRsRight
namespace Go.Proofs.YtbpijmmhgdemlaaGreatDoor
open Go.RowKit Go.Sort
attribute [local go_sem] get_mk mk_append mk_extract0 mk_extract_end mk_extract_cons empty_mk cell_grow frozen_grow size_grow
attribute [local go_sem ↓] run_eql_url run_neq_url
set_option maxRecDepth 100000 in
set_option maxHeartbeats 4000000 in
theorem rstwice_calls (o : Bool) (a b : List UInt8) (n : Int) (c d : List UInt8) (o' : Bool) (a' b' : List UInt8) (n' : Int) (c' d' : List UInt8) (ref : List UInt8) (w : World) (h1 : -9223372036854775808 ≤ n) (h2 : n ≤ 9223372036854775807) (h1' : -9223372036854775808 ≤ n') (h2' : n' ≤ 9223372036854775807) (hE : Env w) :
    Calls Tryz.prog 13 #[.agg #[.bool o, .string ⟨a.toArray⟩, .string ⟨b.toArray⟩, .int .i64 n, .string ⟨c.toArray⟩, .string ⟨d.toArray⟩], .agg #[.bool o', .string ⟨a'.toArray⟩, .string ⟨b'.toArray⟩, .int .i64 n', .string ⟨c'.toArray⟩, .string ⟨d'.toArray⟩], .string ⟨ref.toArray⟩] w fun e w' => e = .returned (.bool true) ∧ Reach w w' := by
  have HE := Lib.hid hE
  clear hE
  have hba := fun W => big_calls o a b n c d W
  have hbb := fun W => big_calls o' a' b' n' c' d' W
  cases hbig : bigB a b c d
  rotate_left
  · rw [hbig] at hba
    have HBA := Lib.hid hba
    clear hba hbb hbig
    go_enter Tryz.func13, Tryz.ntmps13
    go_wp2_with (first | (go_at_call 24; (with_reducible refine Calls.mono (HBA.out _) ?_); rintro e w' ⟨rfl, hb⟩; obtain ⟨hc, hf, hz⟩ := Reach.facts hb) | ((with_reducible refine wp_region_quiet_below (by kernel_rfl) (by kernel_rfl) ?_); (repeat (any_goals (first | (go_big_quiet_step ((first | (go_at_call 24; with_reducible exact reg_reach (HBA.out _))))) | (quiet_step ((first | (go_at_call 24; with_reducible exact reg_reach (HBA.out _))))) | (refine wpQuiet_step (fun K hK => ?_); go_simp; split <;> (refine hK _ ?_; clear hK K))))); all_goals (refine wpQuiet_nil ?_; intro _ hw'; obtain ⟨⟨dq, osq⟩, hw''⟩ := hw'; subst hw'')))
    go_ret
    exact ⟨rfl, by (repeat (first | (with_reducible assumption) | (with_reducible exact Reach.refl _) | (with_reducible refine Reach.alloc ?_ _) | (with_reducible refine Reach.drew ?_) | (with_reducible refine Reach.drewN ?_ _) | (with_reducible refine Reach.grow ?_ _ _) | (with_reducible refine Reach.setCell ?_ ?_ _) | (with_reducible refine Reach.trans ?_ (by with_reducible assumption)) | (show _ ≤ Addr.block _; first | (exact Nat.le_refl _) | (show (_ : Nat) ≤ _; omega)) | (simp; done) | (simp; omega)))⟩
  cases hbig2 : bigB a' b' c' d'
  rotate_left
  · rw [hbig] at hba
    rw [hbig2] at hbb
    have HBA := Lib.hid hba
    have HBB := Lib.hid hbb
    clear hba hbb hbig hbig2
    go_enter Tryz.func13, Tryz.ntmps13
    go_wp2_with fail
    have BA : Blk (w.alloc (.cells #[.bool o, .string ⟨a.toArray⟩, .string ⟨b.toArray⟩, .int .i64 n, .string ⟨c.toArray⟩, .string ⟨d.toArray⟩] 23)) (w.heap.size) #[.bool o, .string ⟨a.toArray⟩, .string ⟨b.toArray⟩, .int .i64 n, .string ⟨c.toArray⟩, .string ⟨d.toArray⟩] 23 := by have h := Blk.new w #[.bool o, .string ⟨a.toArray⟩, .string ⟨b.toArray⟩, .int .i64 n, .string ⟨c.toArray⟩, .string ⟨d.toArray⟩] 23; exact h
    have BB : Blk ((w.alloc (.cells #[.bool o, .string ⟨a.toArray⟩, .string ⟨b.toArray⟩, .int .i64 n, .string ⟨c.toArray⟩, .string ⟨d.toArray⟩] 23)).alloc (.cells #[.bool o', .string ⟨a'.toArray⟩, .string ⟨b'.toArray⟩, .int .i64 n', .string ⟨c'.toArray⟩, .string ⟨d'.toArray⟩] 23)) (w.heap.size + 1) #[.bool o', .string ⟨a'.toArray⟩, .string ⟨b'.toArray⟩, .int .i64 n', .string ⟨c'.toArray⟩, .string ⟨d'.toArray⟩] 23 := by have h := Blk.new (w.alloc (.cells #[.bool o, .string ⟨a.toArray⟩, .string ⟨b.toArray⟩, .int .i64 n, .string ⟨c.toArray⟩, .string ⟨d.toArray⟩] 23)) #[.bool o', .string ⟨a'.toArray⟩, .string ⟨b'.toArray⟩, .int .i64 n', .string ⟨c'.toArray⟩, .string ⟨d'.toArray⟩] 23; rw [World.size_alloc] at h; exact h
    replace BA := BA.reach (Reach.alloc (Reach.refl _) (.cells #[.bool o', .string ⟨a'.toArray⟩, .string ⟨b'.toArray⟩, .int .i64 n', .string ⟨c'.toArray⟩, .string ⟨d'.toArray⟩] 23))
    have Q : Reach w _ := Reach.alloc (Reach.alloc (Reach.refl w) (.cells #[.bool o, .string ⟨a.toArray⟩, .string ⟨b.toArray⟩, .int .i64 n, .string ⟨c.toArray⟩, .string ⟨d.toArray⟩] 23)) (.cells #[.bool o', .string ⟨a'.toArray⟩, .string ⟨b'.toArray⟩, .int .i64 n', .string ⟨c'.toArray⟩, .string ⟨d'.toArray⟩] 23)
    generalize (w.alloc (.cells #[.bool o, .string ⟨a.toArray⟩, .string ⟨b.toArray⟩, .int .i64 n, .string ⟨c.toArray⟩, .string ⟨d.toArray⟩] 23)).alloc (.cells #[.bool o', .string ⟨a'.toArray⟩, .string ⟨b'.toArray⟩, .int .i64 n', .string ⟨c'.toArray⟩, .string ⟨d'.toArray⟩] 23) = W0 at BA BB Q ⊢
    refine Calls.mono (HBA.out _) ?_
    rintro e W1 ⟨rfl, hr⟩
    replace BA := BA.reach hr
    replace BB := BB.reach hr
    replace Q := Reach.trans Q hr
    clear hr
    obtain ⟨x0_0, x0_1, x0_2, x0_3, x0_4, x0_5⟩ := BA.six
    have xl0 := BA.lt
    obtain ⟨x1_0, x1_1, x1_2, x1_3, x1_4, x1_5⟩ := BB.six
    have xl1 := BB.lt
    go_wp2_with fail
    clear x0_0 x0_1 x0_2 x0_3 x0_4 x0_5 xl0 x1_0 x1_1 x1_2 x1_3 x1_4 x1_5 xl1
    refine Calls.mono (HBB.out _) ?_
    rintro e W2 ⟨rfl, hr⟩
    replace BA := BA.reach hr
    replace BB := BB.reach hr
    replace Q := Reach.trans Q hr
    clear hr
    go_wp2_with fail
    go_ret
    exact ⟨rfl, Q⟩
  rw [hbig] at hba
  rw [hbig2] at hbb
  have HBA := Lib.hid hba
  have HBB := Lib.hid hbb
  clear hba hbb
  obtain ⟨l1, l2, l3, l4⟩ := bigN hbig
  obtain ⟨l1', l2', l3', l4'⟩ := bigN hbig2
  clear hbig hbig2
  by_cases hl : (2000 : Int) < ref.length
  · skip
    go_enter Tryz.func13, Tryz.ntmps13
    go_wp2_with fail
    have BA : Blk (w.alloc (.cells #[.bool o, .string ⟨a.toArray⟩, .string ⟨b.toArray⟩, .int .i64 n, .string ⟨c.toArray⟩, .string ⟨d.toArray⟩] 23)) (w.heap.size) #[.bool o, .string ⟨a.toArray⟩, .string ⟨b.toArray⟩, .int .i64 n, .string ⟨c.toArray⟩, .string ⟨d.toArray⟩] 23 := by have h := Blk.new w #[.bool o, .string ⟨a.toArray⟩, .string ⟨b.toArray⟩, .int .i64 n, .string ⟨c.toArray⟩, .string ⟨d.toArray⟩] 23; exact h
    have BB : Blk ((w.alloc (.cells #[.bool o, .string ⟨a.toArray⟩, .string ⟨b.toArray⟩, .int .i64 n, .string ⟨c.toArray⟩, .string ⟨d.toArray⟩] 23)).alloc (.cells #[.bool o', .string ⟨a'.toArray⟩, .string ⟨b'.toArray⟩, .int .i64 n', .string ⟨c'.toArray⟩, .string ⟨d'.toArray⟩] 23)) (w.heap.size + 1) #[.bool o', .string ⟨a'.toArray⟩, .string ⟨b'.toArray⟩, .int .i64 n', .string ⟨c'.toArray⟩, .string ⟨d'.toArray⟩] 23 := by have h := Blk.new (w.alloc (.cells #[.bool o, .string ⟨a.toArray⟩, .string ⟨b.toArray⟩, .int .i64 n, .string ⟨c.toArray⟩, .string ⟨d.toArray⟩] 23)) #[.bool o', .string ⟨a'.toArray⟩, .string ⟨b'.toArray⟩, .int .i64 n', .string ⟨c'.toArray⟩, .string ⟨d'.toArray⟩] 23; rw [World.size_alloc] at h; exact h
    replace BA := BA.reach (Reach.alloc (Reach.refl _) (.cells #[.bool o', .string ⟨a'.toArray⟩, .string ⟨b'.toArray⟩, .int .i64 n', .string ⟨c'.toArray⟩, .string ⟨d'.toArray⟩] 23))
    have Q : Reach w _ := Reach.alloc (Reach.alloc (Reach.refl w) (.cells #[.bool o, .string ⟨a.toArray⟩, .string ⟨b.toArray⟩, .int .i64 n, .string ⟨c.toArray⟩, .string ⟨d.toArray⟩] 23)) (.cells #[.bool o', .string ⟨a'.toArray⟩, .string ⟨b'.toArray⟩, .int .i64 n', .string ⟨c'.toArray⟩, .string ⟨d'.toArray⟩] 23)
    generalize (w.alloc (.cells #[.bool o, .string ⟨a.toArray⟩, .string ⟨b.toArray⟩, .int .i64 n, .string ⟨c.toArray⟩, .string ⟨d.toArray⟩] 23)).alloc (.cells #[.bool o', .string ⟨a'.toArray⟩, .string ⟨b'.toArray⟩, .int .i64 n', .string ⟨c'.toArray⟩, .string ⟨d'.toArray⟩] 23) = W0 at BA BB Q ⊢
    refine Calls.mono (HBA.out _) ?_
    rintro e W1 ⟨rfl, hr⟩
    replace BA := BA.reach hr
    replace BB := BB.reach hr
    replace Q := Reach.trans Q hr
    clear hr
    obtain ⟨x0_0, x0_1, x0_2, x0_3, x0_4, x0_5⟩ := BA.six
    have xl0 := BA.lt
    obtain ⟨x1_0, x1_1, x1_2, x1_3, x1_4, x1_5⟩ := BB.six
    have xl1 := BB.lt
    go_wp2_with fail
    clear x0_0 x0_1 x0_2 x0_3 x0_4 x0_5 xl0 x1_0 x1_1 x1_2 x1_3 x1_4 x1_5 xl1
    refine Calls.mono (HBB.out _) ?_
    rintro e W2 ⟨rfl, hr⟩
    replace BA := BA.reach hr
    replace BB := BB.reach hr
    replace Q := Reach.trans Q hr
    clear hr
    go_wp2_with fail
    go_ret
    exact ⟨rfl, Q⟩
  have hj := fun W (hE : Env W) => rsjoin_calls o a b n c d ref W h1 h2 (by omega) (by omega) (by omega) (by omega) (by omega) hE
  have hj2 := fun W (hE : Env W) => rsjoin_calls o a b n c d (32 :: (ref ++ [10])) W h1 h2 (by omega) (by omega) (by omega) (by omega) (by simp; omega) hE
  have e1 : joinU ⟨o, a, b, n, c, d⟩ (32 :: (ref ++ [10])) = joinU ⟨o, a, b, n, c, d⟩ ref := (joinU_blanks _ ref).1
  have e2 : joinE ⟨o, a, b, n, c, d⟩ (32 :: (ref ++ [10])) = joinE ⟨o, a, b, n, c, d⟩ ref := (joinU_blanks _ ref).2
  rw [e1, e2] at hj2
  clear e1 e2
  by_cases he : joinE ⟨o, a, b, n, c, d⟩ ref = 0
  · have hck := joinE_right _ _ he
    obtain ⟨s1, s2, s3, s4, s5, s6⟩ := join_small _ _ he
    rw [he] at hj hj2
    have hag := join_again ⟨o', a', b', n', c', d'⟩ _ hck
    have htl := (checkB_parts _ hck).2.2.1
    have hj3 := fun W (hE : Env W) => rsjoin_calls o' a' b' n' c' d' (textL (joinU ⟨o, a, b, n, c, d⟩ ref)) W h1' h2' (by omega) (by omega) (by omega) (by omega) (by omega) hE
    rw [hag.1, hag.2] at hj3
    clear hag htl he
    generalize joinU ⟨o, a, b, n, c, d⟩ ref = u at *
    obtain ⟨u0, u1, u2, u3, u4, u5⟩ := u
    simp only at s1 s2 s3 s4 s5 s6
    have hx := fun W (hE : Env W) => print_calls u0 u1 u2 u3 u4 u5 W (by omega) (by omega) (by omega) (by omega) (by omega) (by omega) hE
    simp only [printL, checkE, hck, if_true] at hx
    generalize textL ⟨u0, u1, u2, u3, u4, u5⟩ = tu at *
    have hu := urlEq_self ⟨u0, u1, u2, u3, u4, u5⟩
    unfold urlV at hj hj2 hj3
    have HJ := Lib.hid hj
    have HK := Lib.hid hj2
    have HL := Lib.hid hj3
    have HX := Lib.hid hx
    clear hj hj2 hj3 hx hck s1 s2 s3 s4 s5 s6
    go_enter Tryz.func13, Tryz.ntmps13
    go_wp2_with fail
    have BA : Blk (w.alloc (.cells #[.bool o, .string ⟨a.toArray⟩, .string ⟨b.toArray⟩, .int .i64 n, .string ⟨c.toArray⟩, .string ⟨d.toArray⟩] 23)) (w.heap.size) #[.bool o, .string ⟨a.toArray⟩, .string ⟨b.toArray⟩, .int .i64 n, .string ⟨c.toArray⟩, .string ⟨d.toArray⟩] 23 := by have h := Blk.new w #[.bool o, .string ⟨a.toArray⟩, .string ⟨b.toArray⟩, .int .i64 n, .string ⟨c.toArray⟩, .string ⟨d.toArray⟩] 23; exact h
    have BB : Blk ((w.alloc (.cells #[.bool o, .string ⟨a.toArray⟩, .string ⟨b.toArray⟩, .int .i64 n, .string ⟨c.toArray⟩, .string ⟨d.toArray⟩] 23)).alloc (.cells #[.bool o', .string ⟨a'.toArray⟩, .string ⟨b'.toArray⟩, .int .i64 n', .string ⟨c'.toArray⟩, .string ⟨d'.toArray⟩] 23)) (w.heap.size + 1) #[.bool o', .string ⟨a'.toArray⟩, .string ⟨b'.toArray⟩, .int .i64 n', .string ⟨c'.toArray⟩, .string ⟨d'.toArray⟩] 23 := by have h := Blk.new (w.alloc (.cells #[.bool o, .string ⟨a.toArray⟩, .string ⟨b.toArray⟩, .int .i64 n, .string ⟨c.toArray⟩, .string ⟨d.toArray⟩] 23)) #[.bool o', .string ⟨a'.toArray⟩, .string ⟨b'.toArray⟩, .int .i64 n', .string ⟨c'.toArray⟩, .string ⟨d'.toArray⟩] 23; rw [World.size_alloc] at h; exact h
    replace BA := BA.reach (Reach.alloc (Reach.refl _) (.cells #[.bool o', .string ⟨a'.toArray⟩, .string ⟨b'.toArray⟩, .int .i64 n', .string ⟨c'.toArray⟩, .string ⟨d'.toArray⟩] 23))
    have Q : Reach w _ := Reach.alloc (Reach.alloc (Reach.refl w) (.cells #[.bool o, .string ⟨a.toArray⟩, .string ⟨b.toArray⟩, .int .i64 n, .string ⟨c.toArray⟩, .string ⟨d.toArray⟩] 23)) (.cells #[.bool o', .string ⟨a'.toArray⟩, .string ⟨b'.toArray⟩, .int .i64 n', .string ⟨c'.toArray⟩, .string ⟨d'.toArray⟩] 23)
    generalize (w.alloc (.cells #[.bool o, .string ⟨a.toArray⟩, .string ⟨b.toArray⟩, .int .i64 n, .string ⟨c.toArray⟩, .string ⟨d.toArray⟩] 23)).alloc (.cells #[.bool o', .string ⟨a'.toArray⟩, .string ⟨b'.toArray⟩, .int .i64 n', .string ⟨c'.toArray⟩, .string ⟨d'.toArray⟩] 23) = W0 at BA BB Q ⊢
    refine Calls.mono (HBA.out _) ?_
    rintro e W1 ⟨rfl, hr⟩
    replace BA := BA.reach hr
    replace BB := BB.reach hr
    replace Q := Reach.trans Q hr
    clear hr
    obtain ⟨x0_0, x0_1, x0_2, x0_3, x0_4, x0_5⟩ := BA.six
    have xl0 := BA.lt
    obtain ⟨x1_0, x1_1, x1_2, x1_3, x1_4, x1_5⟩ := BB.six
    have xl1 := BB.lt
    go_wp2_with fail
    clear x0_0 x0_1 x0_2 x0_3 x0_4 x0_5 xl0 x1_0 x1_1 x1_2 x1_3 x1_4 x1_5 xl1
    refine Calls.mono (HBB.out _) ?_
    rintro e W2 ⟨rfl, hr⟩
    replace BA := BA.reach hr
    replace BB := BB.reach hr
    replace Q := Reach.trans Q hr
    clear hr
    obtain ⟨x0_0, x0_1, x0_2, x0_3, x0_4, x0_5⟩ := BA.six
    have xl0 := BA.lt
    obtain ⟨x1_0, x1_1, x1_2, x1_3, x1_4, x1_5⟩ := BB.six
    have xl1 := BB.lt
    go_wp2_with fail
    clear x0_0 x0_1 x0_2 x0_3 x0_4 x0_5 xl0 x1_0 x1_1 x1_2 x1_3 x1_4 x1_5 xl1
    refine Calls.mono (HJ.out _ (Env.reach HE.out Q)) ?_
    rintro e W3 ⟨rfl, hr⟩
    replace BA := BA.reach hr
    replace BB := BB.reach hr
    replace Q := Reach.trans Q hr
    clear hr
    obtain ⟨x0_0, x0_1, x0_2, x0_3, x0_4, x0_5⟩ := BA.six
    have xl0 := BA.lt
    obtain ⟨x1_0, x1_1, x1_2, x1_3, x1_4, x1_5⟩ := BB.six
    have xl1 := BB.lt
    go_wp2_with fail
    clear x0_0 x0_1 x0_2 x0_3 x0_4 x0_5 xl0 x1_0 x1_1 x1_2 x1_3 x1_4 x1_5 xl1
    have BU : Blk (W3.alloc (.cells #[.bool u0, .string ⟨u1.toArray⟩, .string ⟨u2.toArray⟩, .int .i64 u3, .string ⟨u4.toArray⟩, .string ⟨u5.toArray⟩] 23)) (W3.heap.size) #[.bool u0, .string ⟨u1.toArray⟩, .string ⟨u2.toArray⟩, .int .i64 u3, .string ⟨u4.toArray⟩, .string ⟨u5.toArray⟩] 23 := by have h := Blk.new W3 #[.bool u0, .string ⟨u1.toArray⟩, .string ⟨u2.toArray⟩, .int .i64 u3, .string ⟨u4.toArray⟩, .string ⟨u5.toArray⟩] 23; exact h
    replace BA := BA.reach (Reach.alloc (Reach.refl _) (.cells #[.bool u0, .string ⟨u1.toArray⟩, .string ⟨u2.toArray⟩, .int .i64 u3, .string ⟨u4.toArray⟩, .string ⟨u5.toArray⟩] 23))
    replace BB := BB.reach (Reach.alloc (Reach.refl _) (.cells #[.bool u0, .string ⟨u1.toArray⟩, .string ⟨u2.toArray⟩, .int .i64 u3, .string ⟨u4.toArray⟩, .string ⟨u5.toArray⟩] 23))
    replace Q := Reach.alloc Q (.cells #[.bool u0, .string ⟨u1.toArray⟩, .string ⟨u2.toArray⟩, .int .i64 u3, .string ⟨u4.toArray⟩, .string ⟨u5.toArray⟩] 23)
    generalize W3.alloc (.cells #[.bool u0, .string ⟨u1.toArray⟩, .string ⟨u2.toArray⟩, .int .i64 u3, .string ⟨u4.toArray⟩, .string ⟨u5.toArray⟩] 23) = X3 at BA BB BU Q ⊢
    generalize W3.heap.size = nBU at *
    refine Calls.mono (HK.out _ (Env.reach HE.out Q)) ?_
    rintro e W4 ⟨rfl, hr⟩
    replace BA := BA.reach hr
    replace BB := BB.reach hr
    replace BU := BU.reach hr
    replace Q := Reach.trans Q hr
    clear hr
    obtain ⟨x0_0, x0_1, x0_2, x0_3, x0_4, x0_5⟩ := BA.six
    have xl0 := BA.lt
    obtain ⟨x1_0, x1_1, x1_2, x1_3, x1_4, x1_5⟩ := BB.six
    have xl1 := BB.lt
    obtain ⟨x2_0, x2_1, x2_2, x2_3, x2_4, x2_5⟩ := BU.six
    have xl2 := BU.lt
    go_wp2_with fail
    clear x0_0 x0_1 x0_2 x0_3 x0_4 x0_5 xl0 x1_0 x1_1 x1_2 x1_3 x1_4 x1_5 xl1 x2_0 x2_1 x2_2 x2_3 x2_4 x2_5 xl2
    have BV : Blk (W4.alloc (.cells #[.bool u0, .string ⟨u1.toArray⟩, .string ⟨u2.toArray⟩, .int .i64 u3, .string ⟨u4.toArray⟩, .string ⟨u5.toArray⟩] 23)) (W4.heap.size) #[.bool u0, .string ⟨u1.toArray⟩, .string ⟨u2.toArray⟩, .int .i64 u3, .string ⟨u4.toArray⟩, .string ⟨u5.toArray⟩] 23 := by have h := Blk.new W4 #[.bool u0, .string ⟨u1.toArray⟩, .string ⟨u2.toArray⟩, .int .i64 u3, .string ⟨u4.toArray⟩, .string ⟨u5.toArray⟩] 23; exact h
    replace BA := BA.reach (Reach.alloc (Reach.refl _) (.cells #[.bool u0, .string ⟨u1.toArray⟩, .string ⟨u2.toArray⟩, .int .i64 u3, .string ⟨u4.toArray⟩, .string ⟨u5.toArray⟩] 23))
    replace BB := BB.reach (Reach.alloc (Reach.refl _) (.cells #[.bool u0, .string ⟨u1.toArray⟩, .string ⟨u2.toArray⟩, .int .i64 u3, .string ⟨u4.toArray⟩, .string ⟨u5.toArray⟩] 23))
    replace BU := BU.reach (Reach.alloc (Reach.refl _) (.cells #[.bool u0, .string ⟨u1.toArray⟩, .string ⟨u2.toArray⟩, .int .i64 u3, .string ⟨u4.toArray⟩, .string ⟨u5.toArray⟩] 23))
    replace Q := Reach.alloc Q (.cells #[.bool u0, .string ⟨u1.toArray⟩, .string ⟨u2.toArray⟩, .int .i64 u3, .string ⟨u4.toArray⟩, .string ⟨u5.toArray⟩] 23)
    generalize W4.alloc (.cells #[.bool u0, .string ⟨u1.toArray⟩, .string ⟨u2.toArray⟩, .int .i64 u3, .string ⟨u4.toArray⟩, .string ⟨u5.toArray⟩] 23) = X4 at BA BB BU BV Q ⊢
    generalize W4.heap.size = nBV at *
    obtain ⟨y0, y1, y2, y3, y4, y5⟩ := BV.six
    have yl := BV.lt
    obtain ⟨x0_0, x0_1, x0_2, x0_3, x0_4, x0_5⟩ := BB.six
    have xl0 := BB.lt
    obtain ⟨x1_0, x1_1, x1_2, x1_3, x1_4, x1_5⟩ := BU.six
    have xl1 := BU.lt
    go_wp2_with fail
    clear x0_0 x0_1 x0_2 x0_3 x0_4 x0_5 xl0 x1_0 x1_1 x1_2 x1_3 x1_4 x1_5 xl1
    clear y0 y1 y2 y3 y4 y5 yl BV
    refine Calls.mono (HX.out _ (Env.reach HE.out Q)) ?_
    rintro e W5 ⟨rfl, hr⟩
    replace BB := BB.reach hr
    replace BU := BU.reach hr
    replace Q := Reach.trans Q hr
    clear hr
    obtain ⟨x0_0, x0_1, x0_2, x0_3, x0_4, x0_5⟩ := BB.six
    have xl0 := BB.lt
    obtain ⟨x1_0, x1_1, x1_2, x1_3, x1_4, x1_5⟩ := BU.six
    have xl1 := BU.lt
    go_wp2_with fail
    clear x0_0 x0_1 x0_2 x0_3 x0_4 x0_5 xl0 x1_0 x1_1 x1_2 x1_3 x1_4 x1_5 xl1
    refine Calls.mono (HL.out _ (Env.reach HE.out Q)) ?_
    rintro e W6 ⟨rfl, hr⟩
    replace BU := BU.reach hr
    replace Q := Reach.trans Q hr
    clear hr
    obtain ⟨x0_0, x0_1, x0_2, x0_3, x0_4, x0_5⟩ := BU.six
    have xl0 := BU.lt
    go_wp2_with fail
    clear x0_0 x0_1 x0_2 x0_3 x0_4 x0_5 xl0
    have BW : Blk (W6.alloc (.cells #[.bool u0, .string ⟨u1.toArray⟩, .string ⟨u2.toArray⟩, .int .i64 u3, .string ⟨u4.toArray⟩, .string ⟨u5.toArray⟩] 23)) (W6.heap.size) #[.bool u0, .string ⟨u1.toArray⟩, .string ⟨u2.toArray⟩, .int .i64 u3, .string ⟨u4.toArray⟩, .string ⟨u5.toArray⟩] 23 := by have h := Blk.new W6 #[.bool u0, .string ⟨u1.toArray⟩, .string ⟨u2.toArray⟩, .int .i64 u3, .string ⟨u4.toArray⟩, .string ⟨u5.toArray⟩] 23; exact h
    replace BU := BU.reach (Reach.alloc (Reach.refl _) (.cells #[.bool u0, .string ⟨u1.toArray⟩, .string ⟨u2.toArray⟩, .int .i64 u3, .string ⟨u4.toArray⟩, .string ⟨u5.toArray⟩] 23))
    replace Q := Reach.alloc Q (.cells #[.bool u0, .string ⟨u1.toArray⟩, .string ⟨u2.toArray⟩, .int .i64 u3, .string ⟨u4.toArray⟩, .string ⟨u5.toArray⟩] 23)
    generalize W6.alloc (.cells #[.bool u0, .string ⟨u1.toArray⟩, .string ⟨u2.toArray⟩, .int .i64 u3, .string ⟨u4.toArray⟩, .string ⟨u5.toArray⟩] 23) = X6 at BU BW Q ⊢
    generalize W6.heap.size = nBW at *
    obtain ⟨x0_0, x0_1, x0_2, x0_3, x0_4, x0_5⟩ := BU.six
    have xl0 := BU.lt
    obtain ⟨x1_0, x1_1, x1_2, x1_3, x1_4, x1_5⟩ := BW.six
    have xl1 := BW.lt
    clear BU BW
    go_wp2_with (first | (go_at_call 40; (with_reducible refine Calls.mono (joins_calls _ (Env.reach HE.out (by (repeat (first | (with_reducible assumption) | (with_reducible exact Reach.refl _) | (with_reducible refine Reach.alloc ?_ _) | (with_reducible refine Reach.drew ?_) | (with_reducible refine Reach.drewN ?_ _) | (with_reducible refine Reach.grow ?_ _ _) | (with_reducible refine Reach.setCell ?_ ?_ _) | (with_reducible refine Reach.trans ?_ (by with_reducible assumption)) | (show _ ≤ Addr.block _; first | (exact Nat.le_refl _) | (show (_ : Nat) ≤ _; omega)) | (simp; done) | (simp; omega)))))) ?_); rintro e w' ⟨rfl, hb⟩; obtain ⟨hc, hf, hz⟩ := Reach.facts hb) | ((with_reducible refine wp_region_quiet_below (by kernel_rfl) (by kernel_rfl) ?_); (repeat (any_goals (first | (go_big_quiet_step ((first | (go_at_call 40; with_reducible exact reg_reach (joins_calls _ (Env.reach HE.out (by (repeat (first | (with_reducible assumption) | (with_reducible exact Reach.refl _) | (with_reducible refine Reach.alloc ?_ _) | (with_reducible refine Reach.drew ?_) | (with_reducible refine Reach.drewN ?_ _) | (with_reducible refine Reach.grow ?_ _ _) | (with_reducible refine Reach.setCell ?_ ?_ _) | (with_reducible refine Reach.trans ?_ (by with_reducible assumption)) | (show _ ≤ Addr.block _; first | (exact Nat.le_refl _) | (show (_ : Nat) ≤ _; omega)) | (simp; done) | (simp; omega)))))))))) | (quiet_step ((first | (go_at_call 40; with_reducible exact reg_reach (joins_calls _ (Env.reach HE.out (by (repeat (first | (with_reducible assumption) | (with_reducible exact Reach.refl _) | (with_reducible refine Reach.alloc ?_ _) | (with_reducible refine Reach.drew ?_) | (with_reducible refine Reach.drewN ?_ _) | (with_reducible refine Reach.grow ?_ _ _) | (with_reducible refine Reach.setCell ?_ ?_ _) | (with_reducible refine Reach.trans ?_ (by with_reducible assumption)) | (show _ ≤ Addr.block _; first | (exact Nat.le_refl _) | (show (_ : Nat) ≤ _; omega)) | (simp; done) | (simp; omega)))))))))) | (refine wpQuiet_step (fun K hK => ?_); go_simp; split <;> (refine hK _ ?_; clear hK K))))); all_goals (refine wpQuiet_nil ?_; intro _ hw'; obtain ⟨⟨dq, osq⟩, hw''⟩ := hw'; subst hw'')))
    go_ret
    exact ⟨rfl, by (repeat (first | (with_reducible assumption) | (with_reducible exact Reach.refl _) | (with_reducible refine Reach.alloc ?_ _) | (with_reducible refine Reach.drew ?_) | (with_reducible refine Reach.drewN ?_ _) | (with_reducible refine Reach.grow ?_ _ _) | (with_reducible refine Reach.setCell ?_ ?_ _) | (with_reducible refine Reach.trans ?_ (by with_reducible assumption)) | (show _ ≤ Addr.block _; first | (exact Nat.le_refl _) | (show (_ : Nat) ≤ _; omega)) | (simp; done) | (simp; omega)))⟩
  · have hz := joinE_wrong _ _ he
    rw [hz] at hj hj2
    have heb : (joinE ⟨o, a, b, n, c, d⟩ ref != 0) = true := by simpa using he
    generalize joinE ⟨o, a, b, n, c, d⟩ ref = je at *
    unfold urlV zeroU at hj hj2
    have hu := urlEq_self ⟨false, [], [], 0, [], []⟩
    have HJ := Lib.hid hj
    have HK := Lib.hid hj2
    clear hj hj2 hz he
    go_enter Tryz.func13, Tryz.ntmps13
    go_wp2_with fail
    have BA : Blk (w.alloc (.cells #[.bool o, .string ⟨a.toArray⟩, .string ⟨b.toArray⟩, .int .i64 n, .string ⟨c.toArray⟩, .string ⟨d.toArray⟩] 23)) (w.heap.size) #[.bool o, .string ⟨a.toArray⟩, .string ⟨b.toArray⟩, .int .i64 n, .string ⟨c.toArray⟩, .string ⟨d.toArray⟩] 23 := by have h := Blk.new w #[.bool o, .string ⟨a.toArray⟩, .string ⟨b.toArray⟩, .int .i64 n, .string ⟨c.toArray⟩, .string ⟨d.toArray⟩] 23; exact h
    have BB : Blk ((w.alloc (.cells #[.bool o, .string ⟨a.toArray⟩, .string ⟨b.toArray⟩, .int .i64 n, .string ⟨c.toArray⟩, .string ⟨d.toArray⟩] 23)).alloc (.cells #[.bool o', .string ⟨a'.toArray⟩, .string ⟨b'.toArray⟩, .int .i64 n', .string ⟨c'.toArray⟩, .string ⟨d'.toArray⟩] 23)) (w.heap.size + 1) #[.bool o', .string ⟨a'.toArray⟩, .string ⟨b'.toArray⟩, .int .i64 n', .string ⟨c'.toArray⟩, .string ⟨d'.toArray⟩] 23 := by have h := Blk.new (w.alloc (.cells #[.bool o, .string ⟨a.toArray⟩, .string ⟨b.toArray⟩, .int .i64 n, .string ⟨c.toArray⟩, .string ⟨d.toArray⟩] 23)) #[.bool o', .string ⟨a'.toArray⟩, .string ⟨b'.toArray⟩, .int .i64 n', .string ⟨c'.toArray⟩, .string ⟨d'.toArray⟩] 23; rw [World.size_alloc] at h; exact h
    replace BA := BA.reach (Reach.alloc (Reach.refl _) (.cells #[.bool o', .string ⟨a'.toArray⟩, .string ⟨b'.toArray⟩, .int .i64 n', .string ⟨c'.toArray⟩, .string ⟨d'.toArray⟩] 23))
    have Q : Reach w _ := Reach.alloc (Reach.alloc (Reach.refl w) (.cells #[.bool o, .string ⟨a.toArray⟩, .string ⟨b.toArray⟩, .int .i64 n, .string ⟨c.toArray⟩, .string ⟨d.toArray⟩] 23)) (.cells #[.bool o', .string ⟨a'.toArray⟩, .string ⟨b'.toArray⟩, .int .i64 n', .string ⟨c'.toArray⟩, .string ⟨d'.toArray⟩] 23)
    generalize (w.alloc (.cells #[.bool o, .string ⟨a.toArray⟩, .string ⟨b.toArray⟩, .int .i64 n, .string ⟨c.toArray⟩, .string ⟨d.toArray⟩] 23)).alloc (.cells #[.bool o', .string ⟨a'.toArray⟩, .string ⟨b'.toArray⟩, .int .i64 n', .string ⟨c'.toArray⟩, .string ⟨d'.toArray⟩] 23) = W0 at BA BB Q ⊢
    refine Calls.mono (HBA.out _) ?_
    rintro e W1 ⟨rfl, hr⟩
    replace BA := BA.reach hr
    replace BB := BB.reach hr
    replace Q := Reach.trans Q hr
    clear hr
    obtain ⟨x0_0, x0_1, x0_2, x0_3, x0_4, x0_5⟩ := BA.six
    have xl0 := BA.lt
    obtain ⟨x1_0, x1_1, x1_2, x1_3, x1_4, x1_5⟩ := BB.six
    have xl1 := BB.lt
    go_wp2_with fail
    clear x0_0 x0_1 x0_2 x0_3 x0_4 x0_5 xl0 x1_0 x1_1 x1_2 x1_3 x1_4 x1_5 xl1
    refine Calls.mono (HBB.out _) ?_
    rintro e W2 ⟨rfl, hr⟩
    replace BA := BA.reach hr
    replace BB := BB.reach hr
    replace Q := Reach.trans Q hr
    clear hr
    obtain ⟨x0_0, x0_1, x0_2, x0_3, x0_4, x0_5⟩ := BA.six
    have xl0 := BA.lt
    obtain ⟨x1_0, x1_1, x1_2, x1_3, x1_4, x1_5⟩ := BB.six
    have xl1 := BB.lt
    go_wp2_with fail
    clear x0_0 x0_1 x0_2 x0_3 x0_4 x0_5 xl0 x1_0 x1_1 x1_2 x1_3 x1_4 x1_5 xl1
    refine Calls.mono (HJ.out _ (Env.reach HE.out Q)) ?_
    rintro e W3 ⟨rfl, hr⟩
    replace BA := BA.reach hr
    replace BB := BB.reach hr
    replace Q := Reach.trans Q hr
    clear hr
    obtain ⟨x0_0, x0_1, x0_2, x0_3, x0_4, x0_5⟩ := BA.six
    have xl0 := BA.lt
    obtain ⟨x1_0, x1_1, x1_2, x1_3, x1_4, x1_5⟩ := BB.six
    have xl1 := BB.lt
    go_wp2_with fail
    clear x0_0 x0_1 x0_2 x0_3 x0_4 x0_5 xl0 x1_0 x1_1 x1_2 x1_3 x1_4 x1_5 xl1
    have BU : Blk (W3.alloc (.cells #[.bool false, .string ⟨#[]⟩, .string ⟨#[]⟩, .int .i64 0, .string ⟨#[]⟩, .string ⟨#[]⟩] 23)) (W3.heap.size) #[.bool false, .string ⟨#[]⟩, .string ⟨#[]⟩, .int .i64 0, .string ⟨#[]⟩, .string ⟨#[]⟩] 23 := by have h := Blk.new W3 #[.bool false, .string ⟨#[]⟩, .string ⟨#[]⟩, .int .i64 0, .string ⟨#[]⟩, .string ⟨#[]⟩] 23; exact h
    replace BA := BA.reach (Reach.alloc (Reach.refl _) (.cells #[.bool false, .string ⟨#[]⟩, .string ⟨#[]⟩, .int .i64 0, .string ⟨#[]⟩, .string ⟨#[]⟩] 23))
    replace BB := BB.reach (Reach.alloc (Reach.refl _) (.cells #[.bool false, .string ⟨#[]⟩, .string ⟨#[]⟩, .int .i64 0, .string ⟨#[]⟩, .string ⟨#[]⟩] 23))
    replace Q := Reach.alloc Q (.cells #[.bool false, .string ⟨#[]⟩, .string ⟨#[]⟩, .int .i64 0, .string ⟨#[]⟩, .string ⟨#[]⟩] 23)
    generalize W3.alloc (.cells #[.bool false, .string ⟨#[]⟩, .string ⟨#[]⟩, .int .i64 0, .string ⟨#[]⟩, .string ⟨#[]⟩] 23) = X3 at BA BB BU Q ⊢
    generalize W3.heap.size = nBU at *
    refine Calls.mono (HK.out _ (Env.reach HE.out Q)) ?_
    rintro e W4 ⟨rfl, hr⟩
    replace BU := BU.reach hr
    replace Q := Reach.trans Q hr
    clear hr
    obtain ⟨x0_0, x0_1, x0_2, x0_3, x0_4, x0_5⟩ := BU.six
    have xl0 := BU.lt
    go_wp2_with fail
    clear x0_0 x0_1 x0_2 x0_3 x0_4 x0_5 xl0
    have BV : Blk (W4.alloc (.cells #[.bool false, .string ⟨#[]⟩, .string ⟨#[]⟩, .int .i64 0, .string ⟨#[]⟩, .string ⟨#[]⟩] 23)) (W4.heap.size) #[.bool false, .string ⟨#[]⟩, .string ⟨#[]⟩, .int .i64 0, .string ⟨#[]⟩, .string ⟨#[]⟩] 23 := by have h := Blk.new W4 #[.bool false, .string ⟨#[]⟩, .string ⟨#[]⟩, .int .i64 0, .string ⟨#[]⟩, .string ⟨#[]⟩] 23; exact h
    replace BU := BU.reach (Reach.alloc (Reach.refl _) (.cells #[.bool false, .string ⟨#[]⟩, .string ⟨#[]⟩, .int .i64 0, .string ⟨#[]⟩, .string ⟨#[]⟩] 23))
    replace Q := Reach.alloc Q (.cells #[.bool false, .string ⟨#[]⟩, .string ⟨#[]⟩, .int .i64 0, .string ⟨#[]⟩, .string ⟨#[]⟩] 23)
    generalize W4.alloc (.cells #[.bool false, .string ⟨#[]⟩, .string ⟨#[]⟩, .int .i64 0, .string ⟨#[]⟩, .string ⟨#[]⟩] 23) = X4 at BU BV Q ⊢
    generalize W4.heap.size = nBV at *
    obtain ⟨x0_0, x0_1, x0_2, x0_3, x0_4, x0_5⟩ := BU.six
    have xl0 := BU.lt
    obtain ⟨x1_0, x1_1, x1_2, x1_3, x1_4, x1_5⟩ := BV.six
    have xl1 := BV.lt
    clear BU BV
    go_wp2_with (first | (go_at_call 40; (with_reducible refine Calls.mono (joins_calls _ (Env.reach HE.out (by (repeat (first | (with_reducible assumption) | (with_reducible exact Reach.refl _) | (with_reducible refine Reach.alloc ?_ _) | (with_reducible refine Reach.drew ?_) | (with_reducible refine Reach.drewN ?_ _) | (with_reducible refine Reach.grow ?_ _ _) | (with_reducible refine Reach.setCell ?_ ?_ _) | (with_reducible refine Reach.trans ?_ (by with_reducible assumption)) | (show _ ≤ Addr.block _; first | (exact Nat.le_refl _) | (show (_ : Nat) ≤ _; omega)) | (simp; done) | (simp; omega)))))) ?_); rintro e w' ⟨rfl, hb⟩; obtain ⟨hc, hf, hz⟩ := Reach.facts hb) | ((with_reducible refine wp_region_quiet_below (by kernel_rfl) (by kernel_rfl) ?_); (repeat (any_goals (first | (go_big_quiet_step ((first | (go_at_call 40; with_reducible exact reg_reach (joins_calls _ (Env.reach HE.out (by (repeat (first | (with_reducible assumption) | (with_reducible exact Reach.refl _) | (with_reducible refine Reach.alloc ?_ _) | (with_reducible refine Reach.drew ?_) | (with_reducible refine Reach.drewN ?_ _) | (with_reducible refine Reach.grow ?_ _ _) | (with_reducible refine Reach.setCell ?_ ?_ _) | (with_reducible refine Reach.trans ?_ (by with_reducible assumption)) | (show _ ≤ Addr.block _; first | (exact Nat.le_refl _) | (show (_ : Nat) ≤ _; omega)) | (simp; done) | (simp; omega)))))))))) | (quiet_step ((first | (go_at_call 40; with_reducible exact reg_reach (joins_calls _ (Env.reach HE.out (by (repeat (first | (with_reducible assumption) | (with_reducible exact Reach.refl _) | (with_reducible refine Reach.alloc ?_ _) | (with_reducible refine Reach.drew ?_) | (with_reducible refine Reach.drewN ?_ _) | (with_reducible refine Reach.grow ?_ _ _) | (with_reducible refine Reach.setCell ?_ ?_ _) | (with_reducible refine Reach.trans ?_ (by with_reducible assumption)) | (show _ ≤ Addr.block _; first | (exact Nat.le_refl _) | (show (_ : Nat) ≤ _; omega)) | (simp; done) | (simp; omega)))))))))) | (refine wpQuiet_step (fun K hK => ?_); go_simp; split <;> (refine hK _ ?_; clear hK K))))); all_goals (refine wpQuiet_nil ?_; intro _ hw'; obtain ⟨⟨dq, osq⟩, hw''⟩ := hw'; subst hw'')))
    go_ret
    exact ⟨rfl, by (repeat (first | (with_reducible assumption) | (with_reducible exact Reach.refl _) | (with_reducible refine Reach.alloc ?_ _) | (with_reducible refine Reach.drew ?_) | (with_reducible refine Reach.drewN ?_ _) | (with_reducible refine Reach.grow ?_ _ _) | (with_reducible refine Reach.setCell ?_ ?_ _) | (with_reducible refine Reach.trans ?_ (by with_reducible assumption)) | (show _ ≤ Addr.block _; first | (exact Nat.le_refl _) | (show (_ : Nat) ≤ _; omega)) | (simp; done) | (simp; omega)))⟩
end Go.Proofs.YtbpijmmhgdemlaaGreatDoor
