/- The law ResolveFolder, walked. -/
import Derived.Test.YtbpijmmhgdemlaaGreatDoorProg
import Derived.Test.YtbpijmmhgdemlaaGreatDoorRsRight
namespace Go.Proofs.YtbpijmmhgdemlaaGreatDoor
open Go.RowKit Go.Sort
attribute [local go_sem] get_mk mk_append mk_extract0 mk_extract_end mk_extract_cons empty_mk cell_grow frozen_grow size_grow
attribute [local go_sem ↓] run_eql_url run_neq_url
set_option maxRecDepth 100000 in
set_option maxHeartbeats 4000000 in
theorem rsfolder_calls (o : Bool) (a b : List UInt8) (n : Int) (c d : List UInt8) (ref : List UInt8) (w : World) (h1 : -9223372036854775808 ≤ n) (h2 : n ≤ 9223372036854775807) (hE : Env w) :
    Calls Tryz.prog 12 #[.agg #[.bool o, .string ⟨a.toArray⟩, .string ⟨b.toArray⟩, .int .i64 n, .string ⟨c.toArray⟩, .string ⟨d.toArray⟩], .string ⟨ref.toArray⟩] w fun e w' => e = .returned (.bool true) ∧ Reach w w' := by
  have HE := Lib.hid hE
  clear hE
  have hba := fun W => big_calls o a b n c d W
  cases hbig : bigB a b c d
  rotate_left
  · rw [hbig] at hba
    have HBA := Lib.hid hba
    clear hba hbig
    go_enter Tryz.func12, Tryz.ntmps12
    go_wp2_with fail
    have BA : Blk (w.alloc (.cells #[.bool o, .string ⟨a.toArray⟩, .string ⟨b.toArray⟩, .int .i64 n, .string ⟨c.toArray⟩, .string ⟨d.toArray⟩] 23)) (w.heap.size) #[.bool o, .string ⟨a.toArray⟩, .string ⟨b.toArray⟩, .int .i64 n, .string ⟨c.toArray⟩, .string ⟨d.toArray⟩] 23 := by have h := Blk.new w #[.bool o, .string ⟨a.toArray⟩, .string ⟨b.toArray⟩, .int .i64 n, .string ⟨c.toArray⟩, .string ⟨d.toArray⟩] 23; exact h
    have Q : Reach w _ := Reach.alloc (Reach.refl w) (.cells #[.bool o, .string ⟨a.toArray⟩, .string ⟨b.toArray⟩, .int .i64 n, .string ⟨c.toArray⟩, .string ⟨d.toArray⟩] 23)
    generalize w.alloc (.cells #[.bool o, .string ⟨a.toArray⟩, .string ⟨b.toArray⟩, .int .i64 n, .string ⟨c.toArray⟩, .string ⟨d.toArray⟩] 23) = W0 at BA Q ⊢
    refine Calls.mono (HBA.out _) ?_
    rintro e W1 ⟨rfl, hr⟩
    replace BA := BA.reach hr
    replace Q := Reach.trans Q hr
    clear hr
    obtain ⟨x0_0, x0_1, x0_2, x0_3, x0_4, x0_5⟩ := BA.six
    have xl0 := BA.lt
    go_wp2_with fail
    clear x0_0 x0_1 x0_2 x0_3 x0_4 x0_5 xl0
    refine Calls.mono (joins_calls _ (Env.reach HE.out Q)) ?_
    rintro e WF ⟨rfl, hr⟩
    replace Q := Reach.trans Q hr
    clear hr
    go_wp2_with fail
    go_ret
    exact ⟨rfl, Q⟩
  rw [hbig] at hba
  have HBA := Lib.hid hba
  clear hba
  obtain ⟨l1, l2, l3, l4⟩ := bigN hbig
  clear hbig
  by_cases hl : (2000 : Int) < ref.length
  · skip
    go_enter Tryz.func12, Tryz.ntmps12
    go_wp2_with fail
    have BA : Blk (w.alloc (.cells #[.bool o, .string ⟨a.toArray⟩, .string ⟨b.toArray⟩, .int .i64 n, .string ⟨c.toArray⟩, .string ⟨d.toArray⟩] 23)) (w.heap.size) #[.bool o, .string ⟨a.toArray⟩, .string ⟨b.toArray⟩, .int .i64 n, .string ⟨c.toArray⟩, .string ⟨d.toArray⟩] 23 := by have h := Blk.new w #[.bool o, .string ⟨a.toArray⟩, .string ⟨b.toArray⟩, .int .i64 n, .string ⟨c.toArray⟩, .string ⟨d.toArray⟩] 23; exact h
    have Q : Reach w _ := Reach.alloc (Reach.refl w) (.cells #[.bool o, .string ⟨a.toArray⟩, .string ⟨b.toArray⟩, .int .i64 n, .string ⟨c.toArray⟩, .string ⟨d.toArray⟩] 23)
    generalize w.alloc (.cells #[.bool o, .string ⟨a.toArray⟩, .string ⟨b.toArray⟩, .int .i64 n, .string ⟨c.toArray⟩, .string ⟨d.toArray⟩] 23) = W0 at BA Q ⊢
    refine Calls.mono (HBA.out _) ?_
    rintro e W1 ⟨rfl, hr⟩
    replace BA := BA.reach hr
    replace Q := Reach.trans Q hr
    clear hr
    obtain ⟨x0_0, x0_1, x0_2, x0_3, x0_4, x0_5⟩ := BA.six
    have xl0 := BA.lt
    go_wp2_with fail
    clear x0_0 x0_1 x0_2 x0_3 x0_4 x0_5 xl0
    refine Calls.mono (joins_calls _ (Env.reach HE.out Q)) ?_
    rintro e WF ⟨rfl, hr⟩
    replace Q := Reach.trans Q hr
    clear hr
    go_wp2_with fail
    go_ret
    exact ⟨rfl, Q⟩
  have hk := fun W (hE : Env W) => kind_calls ref W (by omega) hE
  have hx := fun W (hE : Env W) => check_calls o a b n c d W h1 h2 (by omega) (by omega) (by omega) (by omega) hE
  by_cases k6 : kindL ref = 6
  rotate_left
  · have kb : (kindL ref != 6) = true := by simpa using k6
    generalize kindL ref = k at *
    have HK := Lib.hid hk
    clear hk hx k6
    go_enter Tryz.func12, Tryz.ntmps12
    go_wp2_with fail
    have BA : Blk (w.alloc (.cells #[.bool o, .string ⟨a.toArray⟩, .string ⟨b.toArray⟩, .int .i64 n, .string ⟨c.toArray⟩, .string ⟨d.toArray⟩] 23)) (w.heap.size) #[.bool o, .string ⟨a.toArray⟩, .string ⟨b.toArray⟩, .int .i64 n, .string ⟨c.toArray⟩, .string ⟨d.toArray⟩] 23 := by have h := Blk.new w #[.bool o, .string ⟨a.toArray⟩, .string ⟨b.toArray⟩, .int .i64 n, .string ⟨c.toArray⟩, .string ⟨d.toArray⟩] 23; exact h
    have Q : Reach w _ := Reach.alloc (Reach.refl w) (.cells #[.bool o, .string ⟨a.toArray⟩, .string ⟨b.toArray⟩, .int .i64 n, .string ⟨c.toArray⟩, .string ⟨d.toArray⟩] 23)
    generalize w.alloc (.cells #[.bool o, .string ⟨a.toArray⟩, .string ⟨b.toArray⟩, .int .i64 n, .string ⟨c.toArray⟩, .string ⟨d.toArray⟩] 23) = W0 at BA Q ⊢
    refine Calls.mono (HBA.out _) ?_
    rintro e W1 ⟨rfl, hr⟩
    replace BA := BA.reach hr
    replace Q := Reach.trans Q hr
    clear hr
    obtain ⟨x0_0, x0_1, x0_2, x0_3, x0_4, x0_5⟩ := BA.six
    have xl0 := BA.lt
    go_wp2_with fail
    clear x0_0 x0_1 x0_2 x0_3 x0_4 x0_5 xl0
    refine Calls.mono (HK.out _ (Env.reach HE.out Q)) ?_
    rintro e W2 ⟨rfl, hr⟩
    replace BA := BA.reach hr
    replace Q := Reach.trans Q hr
    clear hr
    obtain ⟨x0_0, x0_1, x0_2, x0_3, x0_4, x0_5⟩ := BA.six
    have xl0 := BA.lt
    go_wp2_with fail
    clear x0_0 x0_1 x0_2 x0_3 x0_4 x0_5 xl0
    refine Calls.mono (joins_calls _ (Env.reach HE.out Q)) ?_
    rintro e WF ⟨rfl, hr⟩
    replace Q := Reach.trans Q hr
    clear hr
    go_wp2_with fail
    go_ret
    exact ⟨rfl, Q⟩
  cases hck : checkB ⟨o, a, b, n, c, d⟩
  · rw [k6] at hk
    simp only [checkE, hck, Bool.false_eq_true, if_false] at hx
    have HK := Lib.hid hk
    have HX := Lib.hid hx
    clear hk hx k6 hck
    go_enter Tryz.func12, Tryz.ntmps12
    go_wp2_with fail
    have BA : Blk (w.alloc (.cells #[.bool o, .string ⟨a.toArray⟩, .string ⟨b.toArray⟩, .int .i64 n, .string ⟨c.toArray⟩, .string ⟨d.toArray⟩] 23)) (w.heap.size) #[.bool o, .string ⟨a.toArray⟩, .string ⟨b.toArray⟩, .int .i64 n, .string ⟨c.toArray⟩, .string ⟨d.toArray⟩] 23 := by have h := Blk.new w #[.bool o, .string ⟨a.toArray⟩, .string ⟨b.toArray⟩, .int .i64 n, .string ⟨c.toArray⟩, .string ⟨d.toArray⟩] 23; exact h
    have Q : Reach w _ := Reach.alloc (Reach.refl w) (.cells #[.bool o, .string ⟨a.toArray⟩, .string ⟨b.toArray⟩, .int .i64 n, .string ⟨c.toArray⟩, .string ⟨d.toArray⟩] 23)
    generalize w.alloc (.cells #[.bool o, .string ⟨a.toArray⟩, .string ⟨b.toArray⟩, .int .i64 n, .string ⟨c.toArray⟩, .string ⟨d.toArray⟩] 23) = W0 at BA Q ⊢
    refine Calls.mono (HBA.out _) ?_
    rintro e W1 ⟨rfl, hr⟩
    replace BA := BA.reach hr
    replace Q := Reach.trans Q hr
    clear hr
    obtain ⟨x0_0, x0_1, x0_2, x0_3, x0_4, x0_5⟩ := BA.six
    have xl0 := BA.lt
    go_wp2_with fail
    clear x0_0 x0_1 x0_2 x0_3 x0_4 x0_5 xl0
    refine Calls.mono (HK.out _ (Env.reach HE.out Q)) ?_
    rintro e W2 ⟨rfl, hr⟩
    replace BA := BA.reach hr
    replace Q := Reach.trans Q hr
    clear hr
    obtain ⟨x0_0, x0_1, x0_2, x0_3, x0_4, x0_5⟩ := BA.six
    have xl0 := BA.lt
    go_wp2_with fail
    clear x0_0 x0_1 x0_2 x0_3 x0_4 x0_5 xl0
    refine Calls.mono (HX.out _ (Env.reach HE.out Q)) ?_
    rintro e W3 ⟨rfl, hr⟩
    replace BA := BA.reach hr
    replace Q := Reach.trans Q hr
    clear hr
    obtain ⟨x0_0, x0_1, x0_2, x0_3, x0_4, x0_5⟩ := BA.six
    have xl0 := BA.lt
    go_wp2_with fail
    clear x0_0 x0_1 x0_2 x0_3 x0_4 x0_5 xl0
    refine Calls.mono (joins_calls _ (Env.reach HE.out Q)) ?_
    rintro e WF ⟨rfl, hr⟩
    replace Q := Reach.trans Q hr
    clear hr
    go_wp2_with fail
    go_ret
    exact ⟨rfl, Q⟩
  simp only [checkE, hck, if_true] at hx
  cases o
  rotate_left
  · rw [k6] at hk
    have HK := Lib.hid hk
    have HX := Lib.hid hx
    clear hk hx k6 hck
    go_enter Tryz.func12, Tryz.ntmps12
    go_wp2_with fail
    have BA : Blk (w.alloc (.cells #[.bool true, .string ⟨a.toArray⟩, .string ⟨b.toArray⟩, .int .i64 n, .string ⟨c.toArray⟩, .string ⟨d.toArray⟩] 23)) (w.heap.size) #[.bool true, .string ⟨a.toArray⟩, .string ⟨b.toArray⟩, .int .i64 n, .string ⟨c.toArray⟩, .string ⟨d.toArray⟩] 23 := by have h := Blk.new w #[.bool true, .string ⟨a.toArray⟩, .string ⟨b.toArray⟩, .int .i64 n, .string ⟨c.toArray⟩, .string ⟨d.toArray⟩] 23; exact h
    have Q : Reach w _ := Reach.alloc (Reach.refl w) (.cells #[.bool true, .string ⟨a.toArray⟩, .string ⟨b.toArray⟩, .int .i64 n, .string ⟨c.toArray⟩, .string ⟨d.toArray⟩] 23)
    generalize w.alloc (.cells #[.bool true, .string ⟨a.toArray⟩, .string ⟨b.toArray⟩, .int .i64 n, .string ⟨c.toArray⟩, .string ⟨d.toArray⟩] 23) = W0 at BA Q ⊢
    refine Calls.mono (HBA.out _) ?_
    rintro e W1 ⟨rfl, hr⟩
    replace BA := BA.reach hr
    replace Q := Reach.trans Q hr
    clear hr
    obtain ⟨x0_0, x0_1, x0_2, x0_3, x0_4, x0_5⟩ := BA.six
    have xl0 := BA.lt
    go_wp2_with fail
    clear x0_0 x0_1 x0_2 x0_3 x0_4 x0_5 xl0
    refine Calls.mono (HK.out _ (Env.reach HE.out Q)) ?_
    rintro e W2 ⟨rfl, hr⟩
    replace BA := BA.reach hr
    replace Q := Reach.trans Q hr
    clear hr
    obtain ⟨x0_0, x0_1, x0_2, x0_3, x0_4, x0_5⟩ := BA.six
    have xl0 := BA.lt
    go_wp2_with fail
    clear x0_0 x0_1 x0_2 x0_3 x0_4 x0_5 xl0
    refine Calls.mono (HX.out _ (Env.reach HE.out Q)) ?_
    rintro e W3 ⟨rfl, hr⟩
    replace BA := BA.reach hr
    replace Q := Reach.trans Q hr
    clear hr
    obtain ⟨x0_0, x0_1, x0_2, x0_3, x0_4, x0_5⟩ := BA.six
    have xl0 := BA.lt
    go_wp2_with fail
    clear x0_0 x0_1 x0_2 x0_3 x0_4 x0_5 xl0
    refine Calls.mono (joins_calls _ (Env.reach HE.out Q)) ?_
    rintro e WF ⟨rfl, hr⟩
    replace Q := Reach.trans Q hr
    clear hr
    go_wp2_with fail
    go_ret
    exact ⟨rfl, Q⟩
  have hj := fun W (hE : Env W) => rsjoin_calls false a b n c d ref W h1 h2 (by omega) (by omega) (by omega) (by omega) (by omega) hE
  have hln := lastN_le c
  have hj2 := fun W (hE : Env W) => rsjoin_calls false a b n (c.take (lastN c)) [] ref W h1 h2 (by omega) (by omega) (by rw [List.length_take]; omega) (by simp) (by omega) hE
  have e1 : joinU ⟨false, a, b, n, c.take (lastN c), []⟩ ref = joinU ⟨false, a, b, n, c, d⟩ ref := (join_folder ⟨false, a, b, n, c, d⟩ ref hck rfl k6).1
  have e2 : joinE ⟨false, a, b, n, c.take (lastN c), []⟩ ref = joinE ⟨false, a, b, n, c, d⟩ ref := (join_folder ⟨false, a, b, n, c, d⟩ ref hck rfl k6).2
  rw [e1, e2] at hj2
  rw [k6] at hk
  generalize joinU ⟨false, a, b, n, c, d⟩ ref = u at *
  generalize joinE ⟨false, a, b, n, c, d⟩ ref = je at *
  clear e1 e2 k6 hck
  obtain ⟨u0, u1, u2, u3, u4, u5⟩ := u
  have hu := urlEq_self ⟨u0, u1, u2, u3, u4, u5⟩
  unfold urlV at hj hj2
  have HJ := Lib.hid hj
  have HL := Lib.hid hj2
  have HK := Lib.hid hk
  have HX := Lib.hid hx
  have HU := Lib.hid hu
  clear hj hj2 hk hx hu
  go_enter Tryz.func12, Tryz.ntmps12
  go_wp2_with fail
  have BA : Blk (w.alloc (.cells #[.bool false, .string ⟨a.toArray⟩, .string ⟨b.toArray⟩, .int .i64 n, .string ⟨c.toArray⟩, .string ⟨d.toArray⟩] 23)) (w.heap.size) #[.bool false, .string ⟨a.toArray⟩, .string ⟨b.toArray⟩, .int .i64 n, .string ⟨c.toArray⟩, .string ⟨d.toArray⟩] 23 := by have h := Blk.new w #[.bool false, .string ⟨a.toArray⟩, .string ⟨b.toArray⟩, .int .i64 n, .string ⟨c.toArray⟩, .string ⟨d.toArray⟩] 23; exact h
  have Q : Reach w _ := Reach.alloc (Reach.refl w) (.cells #[.bool false, .string ⟨a.toArray⟩, .string ⟨b.toArray⟩, .int .i64 n, .string ⟨c.toArray⟩, .string ⟨d.toArray⟩] 23)
  generalize w.alloc (.cells #[.bool false, .string ⟨a.toArray⟩, .string ⟨b.toArray⟩, .int .i64 n, .string ⟨c.toArray⟩, .string ⟨d.toArray⟩] 23) = W0 at BA Q ⊢
  refine Calls.mono (HBA.out _) ?_
  rintro e W1 ⟨rfl, hr⟩
  replace BA := BA.reach hr
  replace Q := Reach.trans Q hr
  clear hr
  obtain ⟨x0_0, x0_1, x0_2, x0_3, x0_4, x0_5⟩ := BA.six
  have xl0 := BA.lt
  go_wp2_with fail
  clear x0_0 x0_1 x0_2 x0_3 x0_4 x0_5 xl0
  refine Calls.mono (HK.out _ (Env.reach HE.out Q)) ?_
  rintro e W2 ⟨rfl, hr⟩
  replace BA := BA.reach hr
  replace Q := Reach.trans Q hr
  clear hr
  obtain ⟨x0_0, x0_1, x0_2, x0_3, x0_4, x0_5⟩ := BA.six
  have xl0 := BA.lt
  go_wp2_with fail
  clear x0_0 x0_1 x0_2 x0_3 x0_4 x0_5 xl0
  refine Calls.mono (HX.out _ (Env.reach HE.out Q)) ?_
  rintro e W3 ⟨rfl, hr⟩
  replace BA := BA.reach hr
  replace Q := Reach.trans Q hr
  clear hr
  obtain ⟨x0_0, x0_1, x0_2, x0_3, x0_4, x0_5⟩ := BA.six
  have xl0 := BA.lt
  go_wp2_with fail
  clear x0_0 x0_1 x0_2 x0_3 x0_4 x0_5 xl0
  have hnn := BA.lt
  have BF : Blk (W3.alloc (.cells #[.bool false, .string ⟨a.toArray⟩, .string ⟨b.toArray⟩, .int .i64 n, .string ⟨c.toArray⟩, .string ⟨d.toArray⟩] 23)) (W3.heap.size) #[.bool false, .string ⟨a.toArray⟩, .string ⟨b.toArray⟩, .int .i64 n, .string ⟨c.toArray⟩, .string ⟨d.toArray⟩] 23 := by have h := Blk.new W3 #[.bool false, .string ⟨a.toArray⟩, .string ⟨b.toArray⟩, .int .i64 n, .string ⟨c.toArray⟩, .string ⟨d.toArray⟩] 23; exact h
  replace BA := BA.reach (Reach.alloc (Reach.refl _) (.cells #[.bool false, .string ⟨a.toArray⟩, .string ⟨b.toArray⟩, .int .i64 n, .string ⟨c.toArray⟩, .string ⟨d.toArray⟩] 23))
  replace Q := Reach.alloc Q (.cells #[.bool false, .string ⟨a.toArray⟩, .string ⟨b.toArray⟩, .int .i64 n, .string ⟨c.toArray⟩, .string ⟨d.toArray⟩] 23)
  generalize W3.alloc (.cells #[.bool false, .string ⟨a.toArray⟩, .string ⟨b.toArray⟩, .int .i64 n, .string ⟨c.toArray⟩, .string ⟨d.toArray⟩] 23) = X3 at BA BF Q ⊢
  generalize W3.heap.size = nBF at *
  have HBA2 := Lib.hid BA
  have HBF := Lib.hid BF
  have HQ := Lib.hid Q
  clear BA BF Q
  go_loopw [6, 7] (fun v i wr => ∃ k : Nat, k ≤ c.length ∧ i = .int .i64 k ∧ v = .int .i64 (lastN (c.take k)) ∧ RowKit.Hid (Reach X3 wr)) (fun _ i _ => c.length - (intOf i).toNat)
  case atStart => exact ⟨0, Nat.zero_le _, rfl, rfl, Reach.refl _⟩
  case round =>
    obtain ⟨k, hk, rfl, rfl, hRR⟩ := hrel
    have BA := HBA2.out.reach hRR.out
    have hc4 := BA.six.2.2.2.2.1
    have hlt0 := BA.lt
    clear BA
    by_cases hlt : k < c.length
    · have hs := lastN_take c k hlt
      have hlk := lastN_le (c.take k)
      rw [List.length_take] at hlk
      by_cases hb : c[k] = 47
      · rw [if_pos hb] at hs
        have hbb : ((c[k].toNat : Int) == 47) = true := by rw [hb]; rfl
        have HS := Lib.hid hs
        clear hs hb
        go_wp2_with (first | ((with_reducible refine wp_region_quiet_below (by kernel_rfl) (by kernel_rfl) ?_); (repeat (any_goals (first | (go_big_quiet_step (fail)) | (quiet_step (fail)) | (refine wpQuiet_step (fun K hK => ?_); go_simp; split <;> (refine hK _ ?_; clear hK K))))); all_goals (refine wpQuiet_nil ?_; intro _ hw'; obtain ⟨⟨dq, osq⟩, hw''⟩ := hw'; subst hw'')))
        all_goals exact ⟨⟨k + 1, by omega, by go_num, by rw [HS.out]; go_num, (by have hr := hRR.out; show Reach _ _; (repeat (first | (with_reducible assumption) | (with_reducible exact Reach.refl _) | (with_reducible refine Reach.alloc ?_ _) | (with_reducible refine Reach.drew ?_) | (with_reducible refine Reach.drewN ?_ _) | (with_reducible refine Reach.grow ?_ _ _) | (with_reducible refine Reach.setCell ?_ ?_ _) | (with_reducible refine Reach.trans ?_ (by with_reducible assumption)) | (show _ ≤ Addr.block _; first | (exact Nat.le_refl _) | (show (_ : Nat) ≤ _; omega)) | (simp; done) | (simp; omega))))⟩, by simp [intOf]; omega⟩
      · rw [if_neg hb] at hs
        have hbb : ((c[k].toNat : Int) == 47) = false := by
          rw [beq_eq_false_iff_ne]
          intro e
          apply hb
          apply UInt8.toNat.inj
          show c[k].toNat = 47
          omega
        have HS := Lib.hid hs
        clear hs hb
        go_wp2_with (first | ((with_reducible refine wp_region_quiet_below (by kernel_rfl) (by kernel_rfl) ?_); (repeat (any_goals (first | (go_big_quiet_step (fail)) | (quiet_step (fail)) | (refine wpQuiet_step (fun K hK => ?_); go_simp; split <;> (refine hK _ ?_; clear hK K))))); all_goals (refine wpQuiet_nil ?_; intro _ hw'; obtain ⟨⟨dq, osq⟩, hw''⟩ := hw'; subst hw'')))
        all_goals exact ⟨⟨k + 1, by omega, by go_num, by rw [HS.out], (by have hr := hRR.out; show Reach _ _; (repeat (first | (with_reducible assumption) | (with_reducible exact Reach.refl _) | (with_reducible refine Reach.alloc ?_ _) | (with_reducible refine Reach.drew ?_) | (with_reducible refine Reach.drewN ?_ _) | (with_reducible refine Reach.grow ?_ _ _) | (with_reducible refine Reach.setCell ?_ ?_ _) | (with_reducible refine Reach.trans ?_ (by with_reducible assumption)) | (show _ ≤ Addr.block _; first | (exact Nat.le_refl _) | (show (_ : Nat) ≤ _; omega)) | (simp; done) | (simp; omega))))⟩, by simp [intOf]; omega⟩
    · obtain rfl : k = c.length := by omega
      rw [List.take_length]
      generalize hLN : lastN c = ln at *
      clear hLN hc4 hlt0 hk
      have BA := HBA2.out.reach hRR.out
      have BF := HBF.out.reach hRR.out
      have Q := Reach.trans HQ.out hRR.out
      have ne1 : nBF ≠ w.heap.size := by omega
      have ne2 : w.heap.size ≠ nBF := by omega
      obtain ⟨x0_0, x0_1, x0_2, x0_3, x0_4, x0_5⟩ := BA.six
      have xl0 := BA.lt
      obtain ⟨⟨x1_0, x1_1, x1_2, x1_3, x1_4, x1_5⟩, y1_0, y1_1, y1_2, y1_3, y1_4, y1_5⟩ := BF.sixf
      have xl1 := BF.lt
      go_wp2_with fail
      clear x0_0 x0_1 x0_2 x0_3 x0_4 x0_5 xl0 x1_0 x1_1 x1_2 x1_3 x1_4 x1_5 y1_0 y1_1 y1_2 y1_3 y1_4 y1_5 xl1
      have hle : w.heap.size ≤ nBF := by omega
      replace BF := (BF.put 4 (.string ⟨(c.take ln).toArray⟩)).put 5 (.string ⟨#[]⟩)
      replace Q : Reach w _ := Reach.setCell (p := ⟨nBF, 5, none⟩) (Reach.setCell (p := ⟨nBF, 4, none⟩) Q hle (.string ⟨(c.take ln).toArray⟩)) hle (.string ⟨#[]⟩)
      generalize (wr.setCell ⟨nBF, 4, none⟩ (.string ⟨(c.take ln).toArray⟩)).setCell ⟨nBF, 5, none⟩ (.string ⟨#[]⟩) = X5 at BF Q ⊢
      clear BA ne1 ne2 hle hnn
      refine Calls.mono (HJ.out _ (Env.reach HE.out Q)) ?_
      rintro e W6 ⟨rfl, hr⟩
      replace BF := BF.reach hr
      replace Q := Reach.trans Q hr
      clear hr
      obtain ⟨x0_0, x0_1, x0_2, x0_3, x0_4, x0_5⟩ := BF.six
      have xl0 := BF.lt
      go_wp2_with fail
      clear x0_0 x0_1 x0_2 x0_3 x0_4 x0_5 xl0
      have BU : Blk (W6.alloc (.cells #[.bool u0, .string ⟨u1.toArray⟩, .string ⟨u2.toArray⟩, .int .i64 u3, .string ⟨u4.toArray⟩, .string ⟨u5.toArray⟩] 23)) (W6.heap.size) #[.bool u0, .string ⟨u1.toArray⟩, .string ⟨u2.toArray⟩, .int .i64 u3, .string ⟨u4.toArray⟩, .string ⟨u5.toArray⟩] 23 := by have h := Blk.new W6 #[.bool u0, .string ⟨u1.toArray⟩, .string ⟨u2.toArray⟩, .int .i64 u3, .string ⟨u4.toArray⟩, .string ⟨u5.toArray⟩] 23; exact h
      replace BF := BF.reach (Reach.alloc (Reach.refl _) (.cells #[.bool u0, .string ⟨u1.toArray⟩, .string ⟨u2.toArray⟩, .int .i64 u3, .string ⟨u4.toArray⟩, .string ⟨u5.toArray⟩] 23))
      replace Q := Reach.alloc Q (.cells #[.bool u0, .string ⟨u1.toArray⟩, .string ⟨u2.toArray⟩, .int .i64 u3, .string ⟨u4.toArray⟩, .string ⟨u5.toArray⟩] 23)
      generalize W6.alloc (.cells #[.bool u0, .string ⟨u1.toArray⟩, .string ⟨u2.toArray⟩, .int .i64 u3, .string ⟨u4.toArray⟩, .string ⟨u5.toArray⟩] 23) = X6 at BF BU Q ⊢
      generalize W6.heap.size = nBU at *
      refine Calls.mono (HL.out _ (Env.reach HE.out Q)) ?_
      rintro e W7 ⟨rfl, hr⟩
      replace BU := BU.reach hr
      replace Q := Reach.trans Q hr
      clear hr
      obtain ⟨x0_0, x0_1, x0_2, x0_3, x0_4, x0_5⟩ := BU.six
      have xl0 := BU.lt
      go_wp2_with fail
      clear x0_0 x0_1 x0_2 x0_3 x0_4 x0_5 xl0
      have BV : Blk (W7.alloc (.cells #[.bool u0, .string ⟨u1.toArray⟩, .string ⟨u2.toArray⟩, .int .i64 u3, .string ⟨u4.toArray⟩, .string ⟨u5.toArray⟩] 23)) (W7.heap.size) #[.bool u0, .string ⟨u1.toArray⟩, .string ⟨u2.toArray⟩, .int .i64 u3, .string ⟨u4.toArray⟩, .string ⟨u5.toArray⟩] 23 := by have h := Blk.new W7 #[.bool u0, .string ⟨u1.toArray⟩, .string ⟨u2.toArray⟩, .int .i64 u3, .string ⟨u4.toArray⟩, .string ⟨u5.toArray⟩] 23; exact h
      replace BU := BU.reach (Reach.alloc (Reach.refl _) (.cells #[.bool u0, .string ⟨u1.toArray⟩, .string ⟨u2.toArray⟩, .int .i64 u3, .string ⟨u4.toArray⟩, .string ⟨u5.toArray⟩] 23))
      replace Q := Reach.alloc Q (.cells #[.bool u0, .string ⟨u1.toArray⟩, .string ⟨u2.toArray⟩, .int .i64 u3, .string ⟨u4.toArray⟩, .string ⟨u5.toArray⟩] 23)
      generalize W7.alloc (.cells #[.bool u0, .string ⟨u1.toArray⟩, .string ⟨u2.toArray⟩, .int .i64 u3, .string ⟨u4.toArray⟩, .string ⟨u5.toArray⟩] 23) = X7 at BU BV Q ⊢
      generalize W7.heap.size = nBV at *
      obtain ⟨x0_0, x0_1, x0_2, x0_3, x0_4, x0_5⟩ := BU.six
      have xl0 := BU.lt
      obtain ⟨x1_0, x1_1, x1_2, x1_3, x1_4, x1_5⟩ := BV.six
      have xl1 := BV.lt
      clear BU BV
      have hu := HU.out
      go_wp2_with (first | (go_at_call 40; (with_reducible refine Calls.mono (joins_calls _ (Env.reach HE.out (by (repeat (first | (with_reducible assumption) | (with_reducible exact Reach.refl _) | (with_reducible refine Reach.alloc ?_ _) | (with_reducible refine Reach.drew ?_) | (with_reducible refine Reach.drewN ?_ _) | (with_reducible refine Reach.grow ?_ _ _) | (with_reducible refine Reach.setCell ?_ ?_ _) | (with_reducible refine Reach.trans ?_ (by with_reducible assumption)) | (show _ ≤ Addr.block _; first | (exact Nat.le_refl _) | (show (_ : Nat) ≤ _; omega)) | (simp; done) | (simp; omega)))))) ?_); rintro e w' ⟨rfl, hb⟩; obtain ⟨hc, hf, hz⟩ := Reach.facts hb) | ((with_reducible refine wp_region_quiet_below (by kernel_rfl) (by kernel_rfl) ?_); (repeat (any_goals (first | (go_big_quiet_step ((first | (go_at_call 40; with_reducible exact reg_reach (joins_calls _ (Env.reach HE.out (by (repeat (first | (with_reducible assumption) | (with_reducible exact Reach.refl _) | (with_reducible refine Reach.alloc ?_ _) | (with_reducible refine Reach.drew ?_) | (with_reducible refine Reach.drewN ?_ _) | (with_reducible refine Reach.grow ?_ _ _) | (with_reducible refine Reach.setCell ?_ ?_ _) | (with_reducible refine Reach.trans ?_ (by with_reducible assumption)) | (show _ ≤ Addr.block _; first | (exact Nat.le_refl _) | (show (_ : Nat) ≤ _; omega)) | (simp; done) | (simp; omega)))))))))) | (quiet_step ((first | (go_at_call 40; with_reducible exact reg_reach (joins_calls _ (Env.reach HE.out (by (repeat (first | (with_reducible assumption) | (with_reducible exact Reach.refl _) | (with_reducible refine Reach.alloc ?_ _) | (with_reducible refine Reach.drew ?_) | (with_reducible refine Reach.drewN ?_ _) | (with_reducible refine Reach.grow ?_ _ _) | (with_reducible refine Reach.setCell ?_ ?_ _) | (with_reducible refine Reach.trans ?_ (by with_reducible assumption)) | (show _ ≤ Addr.block _; first | (exact Nat.le_refl _) | (show (_ : Nat) ≤ _; omega)) | (simp; done) | (simp; omega)))))))))) | (refine wpQuiet_step (fun K hK => ?_); go_simp; split <;> (refine hK _ ?_; clear hK K))))); all_goals (refine wpQuiet_nil ?_; intro _ hw'; obtain ⟨⟨dq, osq⟩, hw''⟩ := hw'; subst hw'')))
      go_ret
      exact ⟨rfl, by (repeat (first | (with_reducible assumption) | (with_reducible exact Reach.refl _) | (with_reducible refine Reach.alloc ?_ _) | (with_reducible refine Reach.drew ?_) | (with_reducible refine Reach.drewN ?_ _) | (with_reducible refine Reach.grow ?_ _ _) | (with_reducible refine Reach.setCell ?_ ?_ _) | (with_reducible refine Reach.trans ?_ (by with_reducible assumption)) | (show _ ≤ Addr.block _; first | (exact Nat.le_refl _) | (show (_ : Nat) ≤ _; omega)) | (simp; done) | (simp; omega)))⟩
end Go.Proofs.YtbpijmmhgdemlaaGreatDoor
