/- The law OriginSecure, walked. -/
import Derived.Test.YtbpijmmhgdemlaaGreatDoorProg
import Derived.Test.YtbpijmmhgdemlaaGreatDoorOLaws
namespace Go.Proofs.YtbpijmmhgdemlaaGreatDoor
open Go.RowKit Go.Sort
attribute [local go_sem] get_mk mk_append mk_extract0 mk_extract_end mk_extract_cons empty_mk cell_grow frozen_grow size_grow
attribute [local go_sem ↓] run_eql_org run_neq_org run_eql_url run_neq_url
set_option maxRecDepth 100000 in
set_option maxHeartbeats 4000000 in
theorem osecure_calls (o : Bool) (a b : List UInt8) (n : Int) (c d : List UInt8) (w : World) (h1 : -9223372036854775808 ≤ n) (h2 : n ≤ 9223372036854775807) (hE : Env w) :
    Calls Tryz.prog 9 #[.agg #[.bool o, .string ⟨a.toArray⟩, .string ⟨b.toArray⟩, .int .i64 n, .string ⟨c.toArray⟩, .string ⟨d.toArray⟩]] w fun e w' => e = .returned (.bool true) ∧ Reach w w' := by
  have HE := Lib.hid hE
  clear hE
  have hba := fun W => big_calls o a b n c d W
  cases hbig : bigB a b c d
  · rw [hbig] at hba
    have HBA := Lib.hid hba
    obtain ⟨l1, l2, l3, l4⟩ := bigB_no hbig
    clear hba hbig
    have hsa := fun W (hE : Env W) => secure_calls o a b n c d W h1 h2 (by omega) (by omega) (by omega) (by omega) hE
    have hoa := fun W (hE : Env W) => of_calls o a b n c d W h1 h2 (by omega) (by omega) (by omega) (by omega) hE
    have hca := fun W (hE : Env W) => check_calls o a b n c d W h1 h2 (by omega) (by omega) (by omega) (by omega) hE
    have hsv := fun W (hE : Env W) => secure_calls o a b n [47] [] W h1 h2 (by omega) (by omega) (by simp) (by simp) hE
    have e1 := secure_org ⟨o, a, b, n, c, d⟩
    have e2 := secure_rooted ⟨o, a, b, n, c, d⟩
    simp only [rooted] at e2
    generalize hx : orgOf ⟨o, a, b, n, c, d⟩ = x at *
    clear hx
    obtain ⟨x0, x1, x2, x3⟩ := x
    unfold orgV at hoa
    simp only [isTls] at e1
    have HOA := Lib.hid hoa
    clear hoa l1 l2 l3 l4 h1 h2
    cases hck : checkB ⟨o, a, b, n, c, d⟩
    · have ec : checkE ⟨o, a, b, n, c, d⟩ = 50 := by rw [checkE, hck]; rfl
      simp only [ec] at hca
      have HCA := Lib.hid hca
      clear hca ec e2 hck hsv
      cases x0
      · cases t1 : (x1 == [104, 116, 116, 112, 115]) <;> cases t2 : (x1 == [119, 115, 115])
        all_goals
          simp only [t1, t2, Bool.or_true, Bool.or_false, Bool.not_false, Bool.true_and] at e1
          simp only [e1] at hsa
          have HSA := Lib.hid hsa
          clear hsa e1
          go_enter Tryz.func9, Tryz.ntmps9
          go_wp2_with fail
          have BA : Blk (w.alloc (.cells #[.bool o, .string ⟨a.toArray⟩, .string ⟨b.toArray⟩, .int .i64 n, .string ⟨c.toArray⟩, .string ⟨d.toArray⟩] 23)) (w.heap.size) #[.bool o, .string ⟨a.toArray⟩, .string ⟨b.toArray⟩, .int .i64 n, .string ⟨c.toArray⟩, .string ⟨d.toArray⟩] 23 := by have h := Blk.new w #[.bool o, .string ⟨a.toArray⟩, .string ⟨b.toArray⟩, .int .i64 n, .string ⟨c.toArray⟩, .string ⟨d.toArray⟩] 23; exact h
          have Q : Reach w _ := Reach.alloc (Reach.refl w) (.cells #[.bool o, .string ⟨a.toArray⟩, .string ⟨b.toArray⟩, .int .i64 n, .string ⟨c.toArray⟩, .string ⟨d.toArray⟩] 23)
          generalize w.alloc (.cells #[.bool o, .string ⟨a.toArray⟩, .string ⟨b.toArray⟩, .int .i64 n, .string ⟨c.toArray⟩, .string ⟨d.toArray⟩] 23) = W0 at BA Q ⊢
          refine Calls.mono (HBA.out _) ?_
          rintro e W1 ⟨rfl, hr⟩
          replace BA := BA.reach hr
          replace Q := Reach.trans Q hr
          clear hr
          obtain ⟨x0_0, x0_1, x0_2, x0_3, x0_4, x0_5⟩ := BA.six
          have xl0 := BA.lt
          go_wp2_with fail
          clear x0_0 x0_1 x0_2 x0_3 x0_4 x0_5 xl0
          refine Calls.mono (HSA.out _ (Env.reach HE.out Q)) ?_
          rintro e W2 ⟨rfl, hr⟩
          replace BA := BA.reach hr
          replace Q := Reach.trans Q hr
          clear hr
          obtain ⟨x0_0, x0_1, x0_2, x0_3, x0_4, x0_5⟩ := BA.six
          have xl0 := BA.lt
          go_wp2_with fail
          clear x0_0 x0_1 x0_2 x0_3 x0_4 x0_5 xl0
          refine Calls.mono (HOA.out _ (Env.reach HE.out Q)) ?_
          rintro e W3 ⟨rfl, hr⟩
          replace BA := BA.reach hr
          replace Q := Reach.trans Q hr
          clear hr
          obtain ⟨x0_0, x0_1, x0_2, x0_3, x0_4, x0_5⟩ := BA.six
          have xl0 := BA.lt
          go_wp2_with fail
          clear x0_0 x0_1 x0_2 x0_3 x0_4 x0_5 xl0
          have BX : Blk (W3.alloc (.cells #[.bool false, .string ⟨x1.toArray⟩, .string ⟨x2.toArray⟩, .int .i64 x3] 34)) (W3.heap.size) #[.bool false, .string ⟨x1.toArray⟩, .string ⟨x2.toArray⟩, .int .i64 x3] 34 := by have h := Blk.new W3 #[.bool false, .string ⟨x1.toArray⟩, .string ⟨x2.toArray⟩, .int .i64 x3] 34; exact h
          replace BA := BA.reach (Reach.alloc (Reach.refl _) (.cells #[.bool false, .string ⟨x1.toArray⟩, .string ⟨x2.toArray⟩, .int .i64 x3] 34))
          replace Q := Reach.alloc Q (.cells #[.bool false, .string ⟨x1.toArray⟩, .string ⟨x2.toArray⟩, .int .i64 x3] 34)
          have BV : Blk ((W3.alloc (.cells #[.bool false, .string ⟨x1.toArray⟩, .string ⟨x2.toArray⟩, .int .i64 x3] 34)).alloc (.cells #[.bool o, .string ⟨a.toArray⟩, .string ⟨b.toArray⟩, .int .i64 n, .string ⟨#[47]⟩, .string ⟨#[]⟩] 23)) (W3.heap.size + 1) #[.bool o, .string ⟨a.toArray⟩, .string ⟨b.toArray⟩, .int .i64 n, .string ⟨#[47]⟩, .string ⟨#[]⟩] 23 := by have h := Blk.new (W3.alloc (.cells #[.bool false, .string ⟨x1.toArray⟩, .string ⟨x2.toArray⟩, .int .i64 x3] 34)) #[.bool o, .string ⟨a.toArray⟩, .string ⟨b.toArray⟩, .int .i64 n, .string ⟨#[47]⟩, .string ⟨#[]⟩] 23; rw [World.size_alloc] at h; exact h
          replace BA := BA.reach (Reach.alloc (Reach.refl _) (.cells #[.bool o, .string ⟨a.toArray⟩, .string ⟨b.toArray⟩, .int .i64 n, .string ⟨#[47]⟩, .string ⟨#[]⟩] 23))
          replace BX := BX.reach (Reach.alloc (Reach.refl _) (.cells #[.bool o, .string ⟨a.toArray⟩, .string ⟨b.toArray⟩, .int .i64 n, .string ⟨#[47]⟩, .string ⟨#[]⟩] 23))
          replace Q := Reach.alloc Q (.cells #[.bool o, .string ⟨a.toArray⟩, .string ⟨b.toArray⟩, .int .i64 n, .string ⟨#[47]⟩, .string ⟨#[]⟩] 23)
          generalize (W3.alloc (.cells #[.bool false, .string ⟨x1.toArray⟩, .string ⟨x2.toArray⟩, .int .i64 x3] 34)).alloc (.cells #[.bool o, .string ⟨a.toArray⟩, .string ⟨b.toArray⟩, .int .i64 n, .string ⟨#[47]⟩, .string ⟨#[]⟩] 23) = X4 at BA BX BV Q ⊢
          generalize W3.heap.size = nBX at *
          refine Calls.mono (HCA.out _ (Env.reach HE.out Q)) ?_
          rintro e W5 ⟨rfl, hr⟩
          replace BA := BA.reach hr
          replace BX := BX.reach hr
          replace BV := BV.reach hr
          replace Q := Reach.trans Q hr
          clear hr
          obtain ⟨x0_0, x0_1, x0_2, x0_3⟩ := BX.four
          have xl0 := BX.lt
          obtain ⟨x1_0, x1_1, x1_2, x1_3, x1_4, x1_5⟩ := BA.six
          have xl1 := BA.lt
          clear BA BX BV
          go_wp2_with (first | (go_at_call 29; (with_reducible refine Calls.mono (froms_calls _ (Env.reach HE.out (by (repeat (first | (with_reducible assumption) | (with_reducible exact Reach.refl _) | (with_reducible refine Reach.alloc ?_ _) | (with_reducible refine Reach.drew ?_) | (with_reducible refine Reach.drewN ?_ _) | (with_reducible refine Reach.grow ?_ _ _) | (with_reducible refine Reach.setCell ?_ ?_ _) | (with_reducible refine Reach.trans ?_ (by with_reducible assumption)) | (show _ ≤ Addr.block _; first | (exact Nat.le_refl _) | (show (_ : Nat) ≤ _; omega)) | (simp; done) | (simp; omega)))))) ?_); rintro e w' ⟨rfl, hb⟩; obtain ⟨hc, hf, hz⟩ := Reach.facts hb) | (go_at_call 32; (with_reducible refine Calls.mono (HSV.out _ (Env.reach HE.out (by (repeat (first | (with_reducible assumption) | (with_reducible exact Reach.refl _) | (with_reducible refine Reach.alloc ?_ _) | (with_reducible refine Reach.drew ?_) | (with_reducible refine Reach.drewN ?_ _) | (with_reducible refine Reach.grow ?_ _ _) | (with_reducible refine Reach.setCell ?_ ?_ _) | (with_reducible refine Reach.trans ?_ (by with_reducible assumption)) | (show _ ≤ Addr.block _; first | (exact Nat.le_refl _) | (show (_ : Nat) ≤ _; omega)) | (simp; done) | (simp; omega)))))) ?_); rintro e w' ⟨rfl, hb⟩; obtain ⟨hc, hf, hz⟩ := Reach.facts hb) | ((with_reducible refine wp_region_quiet_below (by kernel_rfl) (by kernel_rfl) ?_); (repeat (any_goals (first | (go_big_quiet_step ((first | (go_at_call 29; with_reducible exact reg_reach (froms_calls _ (Env.reach HE.out (by (repeat (first | (with_reducible assumption) | (with_reducible exact Reach.refl _) | (with_reducible refine Reach.alloc ?_ _) | (with_reducible refine Reach.drew ?_) | (with_reducible refine Reach.drewN ?_ _) | (with_reducible refine Reach.grow ?_ _ _) | (with_reducible refine Reach.setCell ?_ ?_ _) | (with_reducible refine Reach.trans ?_ (by with_reducible assumption)) | (show _ ≤ Addr.block _; first | (exact Nat.le_refl _) | (show (_ : Nat) ≤ _; omega)) | (simp; done) | (simp; omega))))))) | (go_at_call 32; with_reducible exact reg_reach (HSV.out _ (Env.reach HE.out (by (repeat (first | (with_reducible assumption) | (with_reducible exact Reach.refl _) | (with_reducible refine Reach.alloc ?_ _) | (with_reducible refine Reach.drew ?_) | (with_reducible refine Reach.drewN ?_ _) | (with_reducible refine Reach.grow ?_ _ _) | (with_reducible refine Reach.setCell ?_ ?_ _) | (with_reducible refine Reach.trans ?_ (by with_reducible assumption)) | (show _ ≤ Addr.block _; first | (exact Nat.le_refl _) | (show (_ : Nat) ≤ _; omega)) | (simp; done) | (simp; omega)))))))))) | (quiet_step ((first | (go_at_call 29; with_reducible exact reg_reach (froms_calls _ (Env.reach HE.out (by (repeat (first | (with_reducible assumption) | (with_reducible exact Reach.refl _) | (with_reducible refine Reach.alloc ?_ _) | (with_reducible refine Reach.drew ?_) | (with_reducible refine Reach.drewN ?_ _) | (with_reducible refine Reach.grow ?_ _ _) | (with_reducible refine Reach.setCell ?_ ?_ _) | (with_reducible refine Reach.trans ?_ (by with_reducible assumption)) | (show _ ≤ Addr.block _; first | (exact Nat.le_refl _) | (show (_ : Nat) ≤ _; omega)) | (simp; done) | (simp; omega))))))) | (go_at_call 32; with_reducible exact reg_reach (HSV.out _ (Env.reach HE.out (by (repeat (first | (with_reducible assumption) | (with_reducible exact Reach.refl _) | (with_reducible refine Reach.alloc ?_ _) | (with_reducible refine Reach.drew ?_) | (with_reducible refine Reach.drewN ?_ _) | (with_reducible refine Reach.grow ?_ _ _) | (with_reducible refine Reach.setCell ?_ ?_ _) | (with_reducible refine Reach.trans ?_ (by with_reducible assumption)) | (show _ ≤ Addr.block _; first | (exact Nat.le_refl _) | (show (_ : Nat) ≤ _; omega)) | (simp; done) | (simp; omega)))))))))) | (refine wpQuiet_step (fun K hK => ?_); go_simp; split <;> (refine hK _ ?_; clear hK K))))); all_goals (refine wpQuiet_nil ?_; intro _ hw'; obtain ⟨⟨dq, osq⟩, hw''⟩ := hw'; subst hw'')))
          go_ret
          exact ⟨rfl, by (repeat (first | (with_reducible assumption) | (with_reducible exact Reach.refl _) | (with_reducible refine Reach.alloc ?_ _) | (with_reducible refine Reach.drew ?_) | (with_reducible refine Reach.drewN ?_ _) | (with_reducible refine Reach.grow ?_ _ _) | (with_reducible refine Reach.setCell ?_ ?_ _) | (with_reducible refine Reach.trans ?_ (by with_reducible assumption)) | (show _ ≤ Addr.block _; first | (exact Nat.le_refl _) | (show (_ : Nat) ≤ _; omega)) | (simp; done) | (simp; omega)))⟩
      · cases t1 : (x1 == [104, 116, 116, 112, 115]) <;> cases t2 : (x1 == [119, 115, 115])
        all_goals
          simp only [Bool.not_true, Bool.false_and] at e1
          simp only [e1] at hsa
          have HSA := Lib.hid hsa
          clear hsa e1
          go_enter Tryz.func9, Tryz.ntmps9
          go_wp2_with fail
          have BA : Blk (w.alloc (.cells #[.bool o, .string ⟨a.toArray⟩, .string ⟨b.toArray⟩, .int .i64 n, .string ⟨c.toArray⟩, .string ⟨d.toArray⟩] 23)) (w.heap.size) #[.bool o, .string ⟨a.toArray⟩, .string ⟨b.toArray⟩, .int .i64 n, .string ⟨c.toArray⟩, .string ⟨d.toArray⟩] 23 := by have h := Blk.new w #[.bool o, .string ⟨a.toArray⟩, .string ⟨b.toArray⟩, .int .i64 n, .string ⟨c.toArray⟩, .string ⟨d.toArray⟩] 23; exact h
          have Q : Reach w _ := Reach.alloc (Reach.refl w) (.cells #[.bool o, .string ⟨a.toArray⟩, .string ⟨b.toArray⟩, .int .i64 n, .string ⟨c.toArray⟩, .string ⟨d.toArray⟩] 23)
          generalize w.alloc (.cells #[.bool o, .string ⟨a.toArray⟩, .string ⟨b.toArray⟩, .int .i64 n, .string ⟨c.toArray⟩, .string ⟨d.toArray⟩] 23) = W0 at BA Q ⊢
          refine Calls.mono (HBA.out _) ?_
          rintro e W1 ⟨rfl, hr⟩
          replace BA := BA.reach hr
          replace Q := Reach.trans Q hr
          clear hr
          obtain ⟨x0_0, x0_1, x0_2, x0_3, x0_4, x0_5⟩ := BA.six
          have xl0 := BA.lt
          go_wp2_with fail
          clear x0_0 x0_1 x0_2 x0_3 x0_4 x0_5 xl0
          refine Calls.mono (HSA.out _ (Env.reach HE.out Q)) ?_
          rintro e W2 ⟨rfl, hr⟩
          replace BA := BA.reach hr
          replace Q := Reach.trans Q hr
          clear hr
          obtain ⟨x0_0, x0_1, x0_2, x0_3, x0_4, x0_5⟩ := BA.six
          have xl0 := BA.lt
          go_wp2_with fail
          clear x0_0 x0_1 x0_2 x0_3 x0_4 x0_5 xl0
          refine Calls.mono (HOA.out _ (Env.reach HE.out Q)) ?_
          rintro e W3 ⟨rfl, hr⟩
          replace BA := BA.reach hr
          replace Q := Reach.trans Q hr
          clear hr
          obtain ⟨x0_0, x0_1, x0_2, x0_3, x0_4, x0_5⟩ := BA.six
          have xl0 := BA.lt
          go_wp2_with fail
          clear x0_0 x0_1 x0_2 x0_3 x0_4 x0_5 xl0
          have BX : Blk (W3.alloc (.cells #[.bool true, .string ⟨x1.toArray⟩, .string ⟨x2.toArray⟩, .int .i64 x3] 34)) (W3.heap.size) #[.bool true, .string ⟨x1.toArray⟩, .string ⟨x2.toArray⟩, .int .i64 x3] 34 := by have h := Blk.new W3 #[.bool true, .string ⟨x1.toArray⟩, .string ⟨x2.toArray⟩, .int .i64 x3] 34; exact h
          replace BA := BA.reach (Reach.alloc (Reach.refl _) (.cells #[.bool true, .string ⟨x1.toArray⟩, .string ⟨x2.toArray⟩, .int .i64 x3] 34))
          replace Q := Reach.alloc Q (.cells #[.bool true, .string ⟨x1.toArray⟩, .string ⟨x2.toArray⟩, .int .i64 x3] 34)
          have BV : Blk ((W3.alloc (.cells #[.bool true, .string ⟨x1.toArray⟩, .string ⟨x2.toArray⟩, .int .i64 x3] 34)).alloc (.cells #[.bool o, .string ⟨a.toArray⟩, .string ⟨b.toArray⟩, .int .i64 n, .string ⟨#[47]⟩, .string ⟨#[]⟩] 23)) (W3.heap.size + 1) #[.bool o, .string ⟨a.toArray⟩, .string ⟨b.toArray⟩, .int .i64 n, .string ⟨#[47]⟩, .string ⟨#[]⟩] 23 := by have h := Blk.new (W3.alloc (.cells #[.bool true, .string ⟨x1.toArray⟩, .string ⟨x2.toArray⟩, .int .i64 x3] 34)) #[.bool o, .string ⟨a.toArray⟩, .string ⟨b.toArray⟩, .int .i64 n, .string ⟨#[47]⟩, .string ⟨#[]⟩] 23; rw [World.size_alloc] at h; exact h
          replace BA := BA.reach (Reach.alloc (Reach.refl _) (.cells #[.bool o, .string ⟨a.toArray⟩, .string ⟨b.toArray⟩, .int .i64 n, .string ⟨#[47]⟩, .string ⟨#[]⟩] 23))
          replace BX := BX.reach (Reach.alloc (Reach.refl _) (.cells #[.bool o, .string ⟨a.toArray⟩, .string ⟨b.toArray⟩, .int .i64 n, .string ⟨#[47]⟩, .string ⟨#[]⟩] 23))
          replace Q := Reach.alloc Q (.cells #[.bool o, .string ⟨a.toArray⟩, .string ⟨b.toArray⟩, .int .i64 n, .string ⟨#[47]⟩, .string ⟨#[]⟩] 23)
          generalize (W3.alloc (.cells #[.bool true, .string ⟨x1.toArray⟩, .string ⟨x2.toArray⟩, .int .i64 x3] 34)).alloc (.cells #[.bool o, .string ⟨a.toArray⟩, .string ⟨b.toArray⟩, .int .i64 n, .string ⟨#[47]⟩, .string ⟨#[]⟩] 23) = X4 at BA BX BV Q ⊢
          generalize W3.heap.size = nBX at *
          refine Calls.mono (HCA.out _ (Env.reach HE.out Q)) ?_
          rintro e W5 ⟨rfl, hr⟩
          replace BA := BA.reach hr
          replace BX := BX.reach hr
          replace BV := BV.reach hr
          replace Q := Reach.trans Q hr
          clear hr
          obtain ⟨x0_0, x0_1, x0_2, x0_3⟩ := BX.four
          have xl0 := BX.lt
          obtain ⟨x1_0, x1_1, x1_2, x1_3, x1_4, x1_5⟩ := BA.six
          have xl1 := BA.lt
          clear BA BX BV
          go_wp2_with (first | (go_at_call 29; (with_reducible refine Calls.mono (froms_calls _ (Env.reach HE.out (by (repeat (first | (with_reducible assumption) | (with_reducible exact Reach.refl _) | (with_reducible refine Reach.alloc ?_ _) | (with_reducible refine Reach.drew ?_) | (with_reducible refine Reach.drewN ?_ _) | (with_reducible refine Reach.grow ?_ _ _) | (with_reducible refine Reach.setCell ?_ ?_ _) | (with_reducible refine Reach.trans ?_ (by with_reducible assumption)) | (show _ ≤ Addr.block _; first | (exact Nat.le_refl _) | (show (_ : Nat) ≤ _; omega)) | (simp; done) | (simp; omega)))))) ?_); rintro e w' ⟨rfl, hb⟩; obtain ⟨hc, hf, hz⟩ := Reach.facts hb) | (go_at_call 32; (with_reducible refine Calls.mono (HSV.out _ (Env.reach HE.out (by (repeat (first | (with_reducible assumption) | (with_reducible exact Reach.refl _) | (with_reducible refine Reach.alloc ?_ _) | (with_reducible refine Reach.drew ?_) | (with_reducible refine Reach.drewN ?_ _) | (with_reducible refine Reach.grow ?_ _ _) | (with_reducible refine Reach.setCell ?_ ?_ _) | (with_reducible refine Reach.trans ?_ (by with_reducible assumption)) | (show _ ≤ Addr.block _; first | (exact Nat.le_refl _) | (show (_ : Nat) ≤ _; omega)) | (simp; done) | (simp; omega)))))) ?_); rintro e w' ⟨rfl, hb⟩; obtain ⟨hc, hf, hz⟩ := Reach.facts hb) | ((with_reducible refine wp_region_quiet_below (by kernel_rfl) (by kernel_rfl) ?_); (repeat (any_goals (first | (go_big_quiet_step ((first | (go_at_call 29; with_reducible exact reg_reach (froms_calls _ (Env.reach HE.out (by (repeat (first | (with_reducible assumption) | (with_reducible exact Reach.refl _) | (with_reducible refine Reach.alloc ?_ _) | (with_reducible refine Reach.drew ?_) | (with_reducible refine Reach.drewN ?_ _) | (with_reducible refine Reach.grow ?_ _ _) | (with_reducible refine Reach.setCell ?_ ?_ _) | (with_reducible refine Reach.trans ?_ (by with_reducible assumption)) | (show _ ≤ Addr.block _; first | (exact Nat.le_refl _) | (show (_ : Nat) ≤ _; omega)) | (simp; done) | (simp; omega))))))) | (go_at_call 32; with_reducible exact reg_reach (HSV.out _ (Env.reach HE.out (by (repeat (first | (with_reducible assumption) | (with_reducible exact Reach.refl _) | (with_reducible refine Reach.alloc ?_ _) | (with_reducible refine Reach.drew ?_) | (with_reducible refine Reach.drewN ?_ _) | (with_reducible refine Reach.grow ?_ _ _) | (with_reducible refine Reach.setCell ?_ ?_ _) | (with_reducible refine Reach.trans ?_ (by with_reducible assumption)) | (show _ ≤ Addr.block _; first | (exact Nat.le_refl _) | (show (_ : Nat) ≤ _; omega)) | (simp; done) | (simp; omega)))))))))) | (quiet_step ((first | (go_at_call 29; with_reducible exact reg_reach (froms_calls _ (Env.reach HE.out (by (repeat (first | (with_reducible assumption) | (with_reducible exact Reach.refl _) | (with_reducible refine Reach.alloc ?_ _) | (with_reducible refine Reach.drew ?_) | (with_reducible refine Reach.drewN ?_ _) | (with_reducible refine Reach.grow ?_ _ _) | (with_reducible refine Reach.setCell ?_ ?_ _) | (with_reducible refine Reach.trans ?_ (by with_reducible assumption)) | (show _ ≤ Addr.block _; first | (exact Nat.le_refl _) | (show (_ : Nat) ≤ _; omega)) | (simp; done) | (simp; omega))))))) | (go_at_call 32; with_reducible exact reg_reach (HSV.out _ (Env.reach HE.out (by (repeat (first | (with_reducible assumption) | (with_reducible exact Reach.refl _) | (with_reducible refine Reach.alloc ?_ _) | (with_reducible refine Reach.drew ?_) | (with_reducible refine Reach.drewN ?_ _) | (with_reducible refine Reach.grow ?_ _ _) | (with_reducible refine Reach.setCell ?_ ?_ _) | (with_reducible refine Reach.trans ?_ (by with_reducible assumption)) | (show _ ≤ Addr.block _; first | (exact Nat.le_refl _) | (show (_ : Nat) ≤ _; omega)) | (simp; done) | (simp; omega)))))))))) | (refine wpQuiet_step (fun K hK => ?_); go_simp; split <;> (refine hK _ ?_; clear hK K))))); all_goals (refine wpQuiet_nil ?_; intro _ hw'; obtain ⟨⟨dq, osq⟩, hw''⟩ := hw'; subst hw'')))
          go_ret
          exact ⟨rfl, by (repeat (first | (with_reducible assumption) | (with_reducible exact Reach.refl _) | (with_reducible refine Reach.alloc ?_ _) | (with_reducible refine Reach.drew ?_) | (with_reducible refine Reach.drewN ?_ _) | (with_reducible refine Reach.grow ?_ _ _) | (with_reducible refine Reach.setCell ?_ ?_ _) | (with_reducible refine Reach.trans ?_ (by with_reducible assumption)) | (show _ ≤ Addr.block _; first | (exact Nat.le_refl _) | (show (_ : Nat) ≤ _; omega)) | (simp; done) | (simp; omega)))⟩
    · have ec : checkE ⟨o, a, b, n, c, d⟩ = 0 := by rw [checkE, hck]; rfl
      simp only [ec] at hca
      have HCA := Lib.hid hca
      clear hca ec
      cases o
      · have e3 := e2 hck rfl
        simp only [e3] at hsv
        clear e2 e3 hck
        cases x0
        · cases t1 : (x1 == [104, 116, 116, 112, 115]) <;> cases t2 : (x1 == [119, 115, 115])
          all_goals
            simp only [t1, t2, Bool.or_true, Bool.or_false, Bool.not_false, Bool.true_and] at e1
            simp only [e1] at hsa
            simp only [e1] at hsv
            have HSA := Lib.hid hsa
            have HSV := Lib.hid hsv
            clear hsa hsv e1
            go_enter Tryz.func9, Tryz.ntmps9
            go_wp2_with fail
            have BA : Blk (w.alloc (.cells #[.bool false, .string ⟨a.toArray⟩, .string ⟨b.toArray⟩, .int .i64 n, .string ⟨c.toArray⟩, .string ⟨d.toArray⟩] 23)) (w.heap.size) #[.bool false, .string ⟨a.toArray⟩, .string ⟨b.toArray⟩, .int .i64 n, .string ⟨c.toArray⟩, .string ⟨d.toArray⟩] 23 := by have h := Blk.new w #[.bool false, .string ⟨a.toArray⟩, .string ⟨b.toArray⟩, .int .i64 n, .string ⟨c.toArray⟩, .string ⟨d.toArray⟩] 23; exact h
            have Q : Reach w _ := Reach.alloc (Reach.refl w) (.cells #[.bool false, .string ⟨a.toArray⟩, .string ⟨b.toArray⟩, .int .i64 n, .string ⟨c.toArray⟩, .string ⟨d.toArray⟩] 23)
            generalize w.alloc (.cells #[.bool false, .string ⟨a.toArray⟩, .string ⟨b.toArray⟩, .int .i64 n, .string ⟨c.toArray⟩, .string ⟨d.toArray⟩] 23) = W0 at BA Q ⊢
            refine Calls.mono (HBA.out _) ?_
            rintro e W1 ⟨rfl, hr⟩
            replace BA := BA.reach hr
            replace Q := Reach.trans Q hr
            clear hr
            obtain ⟨x0_0, x0_1, x0_2, x0_3, x0_4, x0_5⟩ := BA.six
            have xl0 := BA.lt
            go_wp2_with fail
            clear x0_0 x0_1 x0_2 x0_3 x0_4 x0_5 xl0
            refine Calls.mono (HSA.out _ (Env.reach HE.out Q)) ?_
            rintro e W2 ⟨rfl, hr⟩
            replace BA := BA.reach hr
            replace Q := Reach.trans Q hr
            clear hr
            obtain ⟨x0_0, x0_1, x0_2, x0_3, x0_4, x0_5⟩ := BA.six
            have xl0 := BA.lt
            go_wp2_with fail
            clear x0_0 x0_1 x0_2 x0_3 x0_4 x0_5 xl0
            refine Calls.mono (HOA.out _ (Env.reach HE.out Q)) ?_
            rintro e W3 ⟨rfl, hr⟩
            replace BA := BA.reach hr
            replace Q := Reach.trans Q hr
            clear hr
            obtain ⟨x0_0, x0_1, x0_2, x0_3, x0_4, x0_5⟩ := BA.six
            have xl0 := BA.lt
            go_wp2_with fail
            clear x0_0 x0_1 x0_2 x0_3 x0_4 x0_5 xl0
            have BX : Blk (W3.alloc (.cells #[.bool false, .string ⟨x1.toArray⟩, .string ⟨x2.toArray⟩, .int .i64 x3] 34)) (W3.heap.size) #[.bool false, .string ⟨x1.toArray⟩, .string ⟨x2.toArray⟩, .int .i64 x3] 34 := by have h := Blk.new W3 #[.bool false, .string ⟨x1.toArray⟩, .string ⟨x2.toArray⟩, .int .i64 x3] 34; exact h
            replace BA := BA.reach (Reach.alloc (Reach.refl _) (.cells #[.bool false, .string ⟨x1.toArray⟩, .string ⟨x2.toArray⟩, .int .i64 x3] 34))
            replace Q := Reach.alloc Q (.cells #[.bool false, .string ⟨x1.toArray⟩, .string ⟨x2.toArray⟩, .int .i64 x3] 34)
            have BV : Blk ((W3.alloc (.cells #[.bool false, .string ⟨x1.toArray⟩, .string ⟨x2.toArray⟩, .int .i64 x3] 34)).alloc (.cells #[.bool false, .string ⟨a.toArray⟩, .string ⟨b.toArray⟩, .int .i64 n, .string ⟨#[47]⟩, .string ⟨#[]⟩] 23)) (W3.heap.size + 1) #[.bool false, .string ⟨a.toArray⟩, .string ⟨b.toArray⟩, .int .i64 n, .string ⟨#[47]⟩, .string ⟨#[]⟩] 23 := by have h := Blk.new (W3.alloc (.cells #[.bool false, .string ⟨x1.toArray⟩, .string ⟨x2.toArray⟩, .int .i64 x3] 34)) #[.bool false, .string ⟨a.toArray⟩, .string ⟨b.toArray⟩, .int .i64 n, .string ⟨#[47]⟩, .string ⟨#[]⟩] 23; rw [World.size_alloc] at h; exact h
            replace BA := BA.reach (Reach.alloc (Reach.refl _) (.cells #[.bool false, .string ⟨a.toArray⟩, .string ⟨b.toArray⟩, .int .i64 n, .string ⟨#[47]⟩, .string ⟨#[]⟩] 23))
            replace BX := BX.reach (Reach.alloc (Reach.refl _) (.cells #[.bool false, .string ⟨a.toArray⟩, .string ⟨b.toArray⟩, .int .i64 n, .string ⟨#[47]⟩, .string ⟨#[]⟩] 23))
            replace Q := Reach.alloc Q (.cells #[.bool false, .string ⟨a.toArray⟩, .string ⟨b.toArray⟩, .int .i64 n, .string ⟨#[47]⟩, .string ⟨#[]⟩] 23)
            generalize (W3.alloc (.cells #[.bool false, .string ⟨x1.toArray⟩, .string ⟨x2.toArray⟩, .int .i64 x3] 34)).alloc (.cells #[.bool false, .string ⟨a.toArray⟩, .string ⟨b.toArray⟩, .int .i64 n, .string ⟨#[47]⟩, .string ⟨#[]⟩] 23) = X4 at BA BX BV Q ⊢
            generalize W3.heap.size = nBX at *
            refine Calls.mono (HCA.out _ (Env.reach HE.out Q)) ?_
            rintro e W5 ⟨rfl, hr⟩
            replace BA := BA.reach hr
            replace BX := BX.reach hr
            replace BV := BV.reach hr
            replace Q := Reach.trans Q hr
            clear hr
            obtain ⟨x0_0, x0_1, x0_2, x0_3, x0_4, x0_5⟩ := BA.six
            have xl0 := BA.lt
            obtain ⟨x1_0, x1_1, x1_2, x1_3⟩ := BX.four
            have xl1 := BX.lt
            obtain ⟨x2_0, x2_1, x2_2, x2_3, x2_4, x2_5⟩ := BV.six
            have xl2 := BV.lt
            go_wp2_with fail
            clear x0_0 x0_1 x0_2 x0_3 x0_4 x0_5 xl0 x1_0 x1_1 x1_2 x1_3 xl1 x2_0 x2_1 x2_2 x2_3 x2_4 x2_5 xl2
            refine Calls.mono (HSV.out _ (Env.reach HE.out Q)) ?_
            rintro e W6 ⟨rfl, hr⟩
            replace BX := BX.reach hr
            replace Q := Reach.trans Q hr
            clear hr
            obtain ⟨x0_0, x0_1, x0_2, x0_3⟩ := BX.four
            have xl0 := BX.lt
            clear BA BX BV
            go_wp2_with (first | (go_at_call 29; (with_reducible refine Calls.mono (froms_calls _ (Env.reach HE.out (by (repeat (first | (with_reducible assumption) | (with_reducible exact Reach.refl _) | (with_reducible refine Reach.alloc ?_ _) | (with_reducible refine Reach.drew ?_) | (with_reducible refine Reach.drewN ?_ _) | (with_reducible refine Reach.grow ?_ _ _) | (with_reducible refine Reach.setCell ?_ ?_ _) | (with_reducible refine Reach.trans ?_ (by with_reducible assumption)) | (show _ ≤ Addr.block _; first | (exact Nat.le_refl _) | (show (_ : Nat) ≤ _; omega)) | (simp; done) | (simp; omega)))))) ?_); rintro e w' ⟨rfl, hb⟩; obtain ⟨hc, hf, hz⟩ := Reach.facts hb) | ((with_reducible refine wp_region_quiet_below (by kernel_rfl) (by kernel_rfl) ?_); (repeat (any_goals (first | (go_big_quiet_step ((first | (go_at_call 29; with_reducible exact reg_reach (froms_calls _ (Env.reach HE.out (by (repeat (first | (with_reducible assumption) | (with_reducible exact Reach.refl _) | (with_reducible refine Reach.alloc ?_ _) | (with_reducible refine Reach.drew ?_) | (with_reducible refine Reach.drewN ?_ _) | (with_reducible refine Reach.grow ?_ _ _) | (with_reducible refine Reach.setCell ?_ ?_ _) | (with_reducible refine Reach.trans ?_ (by with_reducible assumption)) | (show _ ≤ Addr.block _; first | (exact Nat.le_refl _) | (show (_ : Nat) ≤ _; omega)) | (simp; done) | (simp; omega)))))))))) | (quiet_step ((first | (go_at_call 29; with_reducible exact reg_reach (froms_calls _ (Env.reach HE.out (by (repeat (first | (with_reducible assumption) | (with_reducible exact Reach.refl _) | (with_reducible refine Reach.alloc ?_ _) | (with_reducible refine Reach.drew ?_) | (with_reducible refine Reach.drewN ?_ _) | (with_reducible refine Reach.grow ?_ _ _) | (with_reducible refine Reach.setCell ?_ ?_ _) | (with_reducible refine Reach.trans ?_ (by with_reducible assumption)) | (show _ ≤ Addr.block _; first | (exact Nat.le_refl _) | (show (_ : Nat) ≤ _; omega)) | (simp; done) | (simp; omega)))))))))) | (refine wpQuiet_step (fun K hK => ?_); go_simp; split <;> (refine hK _ ?_; clear hK K))))); all_goals (refine wpQuiet_nil ?_; intro _ hw'; obtain ⟨⟨dq, osq⟩, hw''⟩ := hw'; subst hw'')))
            go_ret
            exact ⟨rfl, by (repeat (first | (with_reducible assumption) | (with_reducible exact Reach.refl _) | (with_reducible refine Reach.alloc ?_ _) | (with_reducible refine Reach.drew ?_) | (with_reducible refine Reach.drewN ?_ _) | (with_reducible refine Reach.grow ?_ _ _) | (with_reducible refine Reach.setCell ?_ ?_ _) | (with_reducible refine Reach.trans ?_ (by with_reducible assumption)) | (show _ ≤ Addr.block _; first | (exact Nat.le_refl _) | (show (_ : Nat) ≤ _; omega)) | (simp; done) | (simp; omega)))⟩
        · cases t1 : (x1 == [104, 116, 116, 112, 115]) <;> cases t2 : (x1 == [119, 115, 115])
          all_goals
            simp only [Bool.not_true, Bool.false_and] at e1
            simp only [e1] at hsa
            simp only [e1] at hsv
            have HSA := Lib.hid hsa
            have HSV := Lib.hid hsv
            clear hsa hsv e1
            go_enter Tryz.func9, Tryz.ntmps9
            go_wp2_with fail
            have BA : Blk (w.alloc (.cells #[.bool false, .string ⟨a.toArray⟩, .string ⟨b.toArray⟩, .int .i64 n, .string ⟨c.toArray⟩, .string ⟨d.toArray⟩] 23)) (w.heap.size) #[.bool false, .string ⟨a.toArray⟩, .string ⟨b.toArray⟩, .int .i64 n, .string ⟨c.toArray⟩, .string ⟨d.toArray⟩] 23 := by have h := Blk.new w #[.bool false, .string ⟨a.toArray⟩, .string ⟨b.toArray⟩, .int .i64 n, .string ⟨c.toArray⟩, .string ⟨d.toArray⟩] 23; exact h
            have Q : Reach w _ := Reach.alloc (Reach.refl w) (.cells #[.bool false, .string ⟨a.toArray⟩, .string ⟨b.toArray⟩, .int .i64 n, .string ⟨c.toArray⟩, .string ⟨d.toArray⟩] 23)
            generalize w.alloc (.cells #[.bool false, .string ⟨a.toArray⟩, .string ⟨b.toArray⟩, .int .i64 n, .string ⟨c.toArray⟩, .string ⟨d.toArray⟩] 23) = W0 at BA Q ⊢
            refine Calls.mono (HBA.out _) ?_
            rintro e W1 ⟨rfl, hr⟩
            replace BA := BA.reach hr
            replace Q := Reach.trans Q hr
            clear hr
            obtain ⟨x0_0, x0_1, x0_2, x0_3, x0_4, x0_5⟩ := BA.six
            have xl0 := BA.lt
            go_wp2_with fail
            clear x0_0 x0_1 x0_2 x0_3 x0_4 x0_5 xl0
            refine Calls.mono (HSA.out _ (Env.reach HE.out Q)) ?_
            rintro e W2 ⟨rfl, hr⟩
            replace BA := BA.reach hr
            replace Q := Reach.trans Q hr
            clear hr
            obtain ⟨x0_0, x0_1, x0_2, x0_3, x0_4, x0_5⟩ := BA.six
            have xl0 := BA.lt
            go_wp2_with fail
            clear x0_0 x0_1 x0_2 x0_3 x0_4 x0_5 xl0
            refine Calls.mono (HOA.out _ (Env.reach HE.out Q)) ?_
            rintro e W3 ⟨rfl, hr⟩
            replace BA := BA.reach hr
            replace Q := Reach.trans Q hr
            clear hr
            obtain ⟨x0_0, x0_1, x0_2, x0_3, x0_4, x0_5⟩ := BA.six
            have xl0 := BA.lt
            go_wp2_with fail
            clear x0_0 x0_1 x0_2 x0_3 x0_4 x0_5 xl0
            have BX : Blk (W3.alloc (.cells #[.bool true, .string ⟨x1.toArray⟩, .string ⟨x2.toArray⟩, .int .i64 x3] 34)) (W3.heap.size) #[.bool true, .string ⟨x1.toArray⟩, .string ⟨x2.toArray⟩, .int .i64 x3] 34 := by have h := Blk.new W3 #[.bool true, .string ⟨x1.toArray⟩, .string ⟨x2.toArray⟩, .int .i64 x3] 34; exact h
            replace BA := BA.reach (Reach.alloc (Reach.refl _) (.cells #[.bool true, .string ⟨x1.toArray⟩, .string ⟨x2.toArray⟩, .int .i64 x3] 34))
            replace Q := Reach.alloc Q (.cells #[.bool true, .string ⟨x1.toArray⟩, .string ⟨x2.toArray⟩, .int .i64 x3] 34)
            have BV : Blk ((W3.alloc (.cells #[.bool true, .string ⟨x1.toArray⟩, .string ⟨x2.toArray⟩, .int .i64 x3] 34)).alloc (.cells #[.bool false, .string ⟨a.toArray⟩, .string ⟨b.toArray⟩, .int .i64 n, .string ⟨#[47]⟩, .string ⟨#[]⟩] 23)) (W3.heap.size + 1) #[.bool false, .string ⟨a.toArray⟩, .string ⟨b.toArray⟩, .int .i64 n, .string ⟨#[47]⟩, .string ⟨#[]⟩] 23 := by have h := Blk.new (W3.alloc (.cells #[.bool true, .string ⟨x1.toArray⟩, .string ⟨x2.toArray⟩, .int .i64 x3] 34)) #[.bool false, .string ⟨a.toArray⟩, .string ⟨b.toArray⟩, .int .i64 n, .string ⟨#[47]⟩, .string ⟨#[]⟩] 23; rw [World.size_alloc] at h; exact h
            replace BA := BA.reach (Reach.alloc (Reach.refl _) (.cells #[.bool false, .string ⟨a.toArray⟩, .string ⟨b.toArray⟩, .int .i64 n, .string ⟨#[47]⟩, .string ⟨#[]⟩] 23))
            replace BX := BX.reach (Reach.alloc (Reach.refl _) (.cells #[.bool false, .string ⟨a.toArray⟩, .string ⟨b.toArray⟩, .int .i64 n, .string ⟨#[47]⟩, .string ⟨#[]⟩] 23))
            replace Q := Reach.alloc Q (.cells #[.bool false, .string ⟨a.toArray⟩, .string ⟨b.toArray⟩, .int .i64 n, .string ⟨#[47]⟩, .string ⟨#[]⟩] 23)
            generalize (W3.alloc (.cells #[.bool true, .string ⟨x1.toArray⟩, .string ⟨x2.toArray⟩, .int .i64 x3] 34)).alloc (.cells #[.bool false, .string ⟨a.toArray⟩, .string ⟨b.toArray⟩, .int .i64 n, .string ⟨#[47]⟩, .string ⟨#[]⟩] 23) = X4 at BA BX BV Q ⊢
            generalize W3.heap.size = nBX at *
            refine Calls.mono (HCA.out _ (Env.reach HE.out Q)) ?_
            rintro e W5 ⟨rfl, hr⟩
            replace BA := BA.reach hr
            replace BX := BX.reach hr
            replace BV := BV.reach hr
            replace Q := Reach.trans Q hr
            clear hr
            obtain ⟨x0_0, x0_1, x0_2, x0_3, x0_4, x0_5⟩ := BA.six
            have xl0 := BA.lt
            obtain ⟨x1_0, x1_1, x1_2, x1_3⟩ := BX.four
            have xl1 := BX.lt
            obtain ⟨x2_0, x2_1, x2_2, x2_3, x2_4, x2_5⟩ := BV.six
            have xl2 := BV.lt
            go_wp2_with fail
            clear x0_0 x0_1 x0_2 x0_3 x0_4 x0_5 xl0 x1_0 x1_1 x1_2 x1_3 xl1 x2_0 x2_1 x2_2 x2_3 x2_4 x2_5 xl2
            refine Calls.mono (HSV.out _ (Env.reach HE.out Q)) ?_
            rintro e W6 ⟨rfl, hr⟩
            replace BX := BX.reach hr
            replace Q := Reach.trans Q hr
            clear hr
            obtain ⟨x0_0, x0_1, x0_2, x0_3⟩ := BX.four
            have xl0 := BX.lt
            clear BA BX BV
            go_wp2_with (first | (go_at_call 29; (with_reducible refine Calls.mono (froms_calls _ (Env.reach HE.out (by (repeat (first | (with_reducible assumption) | (with_reducible exact Reach.refl _) | (with_reducible refine Reach.alloc ?_ _) | (with_reducible refine Reach.drew ?_) | (with_reducible refine Reach.drewN ?_ _) | (with_reducible refine Reach.grow ?_ _ _) | (with_reducible refine Reach.setCell ?_ ?_ _) | (with_reducible refine Reach.trans ?_ (by with_reducible assumption)) | (show _ ≤ Addr.block _; first | (exact Nat.le_refl _) | (show (_ : Nat) ≤ _; omega)) | (simp; done) | (simp; omega)))))) ?_); rintro e w' ⟨rfl, hb⟩; obtain ⟨hc, hf, hz⟩ := Reach.facts hb) | ((with_reducible refine wp_region_quiet_below (by kernel_rfl) (by kernel_rfl) ?_); (repeat (any_goals (first | (go_big_quiet_step ((first | (go_at_call 29; with_reducible exact reg_reach (froms_calls _ (Env.reach HE.out (by (repeat (first | (with_reducible assumption) | (with_reducible exact Reach.refl _) | (with_reducible refine Reach.alloc ?_ _) | (with_reducible refine Reach.drew ?_) | (with_reducible refine Reach.drewN ?_ _) | (with_reducible refine Reach.grow ?_ _ _) | (with_reducible refine Reach.setCell ?_ ?_ _) | (with_reducible refine Reach.trans ?_ (by with_reducible assumption)) | (show _ ≤ Addr.block _; first | (exact Nat.le_refl _) | (show (_ : Nat) ≤ _; omega)) | (simp; done) | (simp; omega)))))))))) | (quiet_step ((first | (go_at_call 29; with_reducible exact reg_reach (froms_calls _ (Env.reach HE.out (by (repeat (first | (with_reducible assumption) | (with_reducible exact Reach.refl _) | (with_reducible refine Reach.alloc ?_ _) | (with_reducible refine Reach.drew ?_) | (with_reducible refine Reach.drewN ?_ _) | (with_reducible refine Reach.grow ?_ _ _) | (with_reducible refine Reach.setCell ?_ ?_ _) | (with_reducible refine Reach.trans ?_ (by with_reducible assumption)) | (show _ ≤ Addr.block _; first | (exact Nat.le_refl _) | (show (_ : Nat) ≤ _; omega)) | (simp; done) | (simp; omega)))))))))) | (refine wpQuiet_step (fun K hK => ?_); go_simp; split <;> (refine hK _ ?_; clear hK K))))); all_goals (refine wpQuiet_nil ?_; intro _ hw'; obtain ⟨⟨dq, osq⟩, hw''⟩ := hw'; subst hw'')))
            go_ret
            exact ⟨rfl, by (repeat (first | (with_reducible assumption) | (with_reducible exact Reach.refl _) | (with_reducible refine Reach.alloc ?_ _) | (with_reducible refine Reach.drew ?_) | (with_reducible refine Reach.drewN ?_ _) | (with_reducible refine Reach.grow ?_ _ _) | (with_reducible refine Reach.setCell ?_ ?_ _) | (with_reducible refine Reach.trans ?_ (by with_reducible assumption)) | (show _ ≤ Addr.block _; first | (exact Nat.le_refl _) | (show (_ : Nat) ≤ _; omega)) | (simp; done) | (simp; omega)))⟩
      · clear e2 hck hsv
        cases x0
        · cases t1 : (x1 == [104, 116, 116, 112, 115]) <;> cases t2 : (x1 == [119, 115, 115])
          all_goals
            simp only [t1, t2, Bool.or_true, Bool.or_false, Bool.not_false, Bool.true_and] at e1
            simp only [e1] at hsa
            have HSA := Lib.hid hsa
            clear hsa e1
            go_enter Tryz.func9, Tryz.ntmps9
            go_wp2_with fail
            have BA : Blk (w.alloc (.cells #[.bool true, .string ⟨a.toArray⟩, .string ⟨b.toArray⟩, .int .i64 n, .string ⟨c.toArray⟩, .string ⟨d.toArray⟩] 23)) (w.heap.size) #[.bool true, .string ⟨a.toArray⟩, .string ⟨b.toArray⟩, .int .i64 n, .string ⟨c.toArray⟩, .string ⟨d.toArray⟩] 23 := by have h := Blk.new w #[.bool true, .string ⟨a.toArray⟩, .string ⟨b.toArray⟩, .int .i64 n, .string ⟨c.toArray⟩, .string ⟨d.toArray⟩] 23; exact h
            have Q : Reach w _ := Reach.alloc (Reach.refl w) (.cells #[.bool true, .string ⟨a.toArray⟩, .string ⟨b.toArray⟩, .int .i64 n, .string ⟨c.toArray⟩, .string ⟨d.toArray⟩] 23)
            generalize w.alloc (.cells #[.bool true, .string ⟨a.toArray⟩, .string ⟨b.toArray⟩, .int .i64 n, .string ⟨c.toArray⟩, .string ⟨d.toArray⟩] 23) = W0 at BA Q ⊢
            refine Calls.mono (HBA.out _) ?_
            rintro e W1 ⟨rfl, hr⟩
            replace BA := BA.reach hr
            replace Q := Reach.trans Q hr
            clear hr
            obtain ⟨x0_0, x0_1, x0_2, x0_3, x0_4, x0_5⟩ := BA.six
            have xl0 := BA.lt
            go_wp2_with fail
            clear x0_0 x0_1 x0_2 x0_3 x0_4 x0_5 xl0
            refine Calls.mono (HSA.out _ (Env.reach HE.out Q)) ?_
            rintro e W2 ⟨rfl, hr⟩
            replace BA := BA.reach hr
            replace Q := Reach.trans Q hr
            clear hr
            obtain ⟨x0_0, x0_1, x0_2, x0_3, x0_4, x0_5⟩ := BA.six
            have xl0 := BA.lt
            go_wp2_with fail
            clear x0_0 x0_1 x0_2 x0_3 x0_4 x0_5 xl0
            refine Calls.mono (HOA.out _ (Env.reach HE.out Q)) ?_
            rintro e W3 ⟨rfl, hr⟩
            replace BA := BA.reach hr
            replace Q := Reach.trans Q hr
            clear hr
            obtain ⟨x0_0, x0_1, x0_2, x0_3, x0_4, x0_5⟩ := BA.six
            have xl0 := BA.lt
            go_wp2_with fail
            clear x0_0 x0_1 x0_2 x0_3 x0_4 x0_5 xl0
            have BX : Blk (W3.alloc (.cells #[.bool false, .string ⟨x1.toArray⟩, .string ⟨x2.toArray⟩, .int .i64 x3] 34)) (W3.heap.size) #[.bool false, .string ⟨x1.toArray⟩, .string ⟨x2.toArray⟩, .int .i64 x3] 34 := by have h := Blk.new W3 #[.bool false, .string ⟨x1.toArray⟩, .string ⟨x2.toArray⟩, .int .i64 x3] 34; exact h
            replace BA := BA.reach (Reach.alloc (Reach.refl _) (.cells #[.bool false, .string ⟨x1.toArray⟩, .string ⟨x2.toArray⟩, .int .i64 x3] 34))
            replace Q := Reach.alloc Q (.cells #[.bool false, .string ⟨x1.toArray⟩, .string ⟨x2.toArray⟩, .int .i64 x3] 34)
            have BV : Blk ((W3.alloc (.cells #[.bool false, .string ⟨x1.toArray⟩, .string ⟨x2.toArray⟩, .int .i64 x3] 34)).alloc (.cells #[.bool true, .string ⟨a.toArray⟩, .string ⟨b.toArray⟩, .int .i64 n, .string ⟨#[47]⟩, .string ⟨#[]⟩] 23)) (W3.heap.size + 1) #[.bool true, .string ⟨a.toArray⟩, .string ⟨b.toArray⟩, .int .i64 n, .string ⟨#[47]⟩, .string ⟨#[]⟩] 23 := by have h := Blk.new (W3.alloc (.cells #[.bool false, .string ⟨x1.toArray⟩, .string ⟨x2.toArray⟩, .int .i64 x3] 34)) #[.bool true, .string ⟨a.toArray⟩, .string ⟨b.toArray⟩, .int .i64 n, .string ⟨#[47]⟩, .string ⟨#[]⟩] 23; rw [World.size_alloc] at h; exact h
            replace BA := BA.reach (Reach.alloc (Reach.refl _) (.cells #[.bool true, .string ⟨a.toArray⟩, .string ⟨b.toArray⟩, .int .i64 n, .string ⟨#[47]⟩, .string ⟨#[]⟩] 23))
            replace BX := BX.reach (Reach.alloc (Reach.refl _) (.cells #[.bool true, .string ⟨a.toArray⟩, .string ⟨b.toArray⟩, .int .i64 n, .string ⟨#[47]⟩, .string ⟨#[]⟩] 23))
            replace Q := Reach.alloc Q (.cells #[.bool true, .string ⟨a.toArray⟩, .string ⟨b.toArray⟩, .int .i64 n, .string ⟨#[47]⟩, .string ⟨#[]⟩] 23)
            generalize (W3.alloc (.cells #[.bool false, .string ⟨x1.toArray⟩, .string ⟨x2.toArray⟩, .int .i64 x3] 34)).alloc (.cells #[.bool true, .string ⟨a.toArray⟩, .string ⟨b.toArray⟩, .int .i64 n, .string ⟨#[47]⟩, .string ⟨#[]⟩] 23) = X4 at BA BX BV Q ⊢
            generalize W3.heap.size = nBX at *
            refine Calls.mono (HCA.out _ (Env.reach HE.out Q)) ?_
            rintro e W5 ⟨rfl, hr⟩
            replace BA := BA.reach hr
            replace BX := BX.reach hr
            replace BV := BV.reach hr
            replace Q := Reach.trans Q hr
            clear hr
            obtain ⟨x0_0, x0_1, x0_2, x0_3⟩ := BX.four
            have xl0 := BX.lt
            obtain ⟨x1_0, x1_1, x1_2, x1_3, x1_4, x1_5⟩ := BA.six
            have xl1 := BA.lt
            clear BA BX BV
            go_wp2_with (first | (go_at_call 29; (with_reducible refine Calls.mono (froms_calls _ (Env.reach HE.out (by (repeat (first | (with_reducible assumption) | (with_reducible exact Reach.refl _) | (with_reducible refine Reach.alloc ?_ _) | (with_reducible refine Reach.drew ?_) | (with_reducible refine Reach.drewN ?_ _) | (with_reducible refine Reach.grow ?_ _ _) | (with_reducible refine Reach.setCell ?_ ?_ _) | (with_reducible refine Reach.trans ?_ (by with_reducible assumption)) | (show _ ≤ Addr.block _; first | (exact Nat.le_refl _) | (show (_ : Nat) ≤ _; omega)) | (simp; done) | (simp; omega)))))) ?_); rintro e w' ⟨rfl, hb⟩; obtain ⟨hc, hf, hz⟩ := Reach.facts hb) | (go_at_call 32; (with_reducible refine Calls.mono (HSV.out _ (Env.reach HE.out (by (repeat (first | (with_reducible assumption) | (with_reducible exact Reach.refl _) | (with_reducible refine Reach.alloc ?_ _) | (with_reducible refine Reach.drew ?_) | (with_reducible refine Reach.drewN ?_ _) | (with_reducible refine Reach.grow ?_ _ _) | (with_reducible refine Reach.setCell ?_ ?_ _) | (with_reducible refine Reach.trans ?_ (by with_reducible assumption)) | (show _ ≤ Addr.block _; first | (exact Nat.le_refl _) | (show (_ : Nat) ≤ _; omega)) | (simp; done) | (simp; omega)))))) ?_); rintro e w' ⟨rfl, hb⟩; obtain ⟨hc, hf, hz⟩ := Reach.facts hb) | ((with_reducible refine wp_region_quiet_below (by kernel_rfl) (by kernel_rfl) ?_); (repeat (any_goals (first | (go_big_quiet_step ((first | (go_at_call 29; with_reducible exact reg_reach (froms_calls _ (Env.reach HE.out (by (repeat (first | (with_reducible assumption) | (with_reducible exact Reach.refl _) | (with_reducible refine Reach.alloc ?_ _) | (with_reducible refine Reach.drew ?_) | (with_reducible refine Reach.drewN ?_ _) | (with_reducible refine Reach.grow ?_ _ _) | (with_reducible refine Reach.setCell ?_ ?_ _) | (with_reducible refine Reach.trans ?_ (by with_reducible assumption)) | (show _ ≤ Addr.block _; first | (exact Nat.le_refl _) | (show (_ : Nat) ≤ _; omega)) | (simp; done) | (simp; omega))))))) | (go_at_call 32; with_reducible exact reg_reach (HSV.out _ (Env.reach HE.out (by (repeat (first | (with_reducible assumption) | (with_reducible exact Reach.refl _) | (with_reducible refine Reach.alloc ?_ _) | (with_reducible refine Reach.drew ?_) | (with_reducible refine Reach.drewN ?_ _) | (with_reducible refine Reach.grow ?_ _ _) | (with_reducible refine Reach.setCell ?_ ?_ _) | (with_reducible refine Reach.trans ?_ (by with_reducible assumption)) | (show _ ≤ Addr.block _; first | (exact Nat.le_refl _) | (show (_ : Nat) ≤ _; omega)) | (simp; done) | (simp; omega)))))))))) | (quiet_step ((first | (go_at_call 29; with_reducible exact reg_reach (froms_calls _ (Env.reach HE.out (by (repeat (first | (with_reducible assumption) | (with_reducible exact Reach.refl _) | (with_reducible refine Reach.alloc ?_ _) | (with_reducible refine Reach.drew ?_) | (with_reducible refine Reach.drewN ?_ _) | (with_reducible refine Reach.grow ?_ _ _) | (with_reducible refine Reach.setCell ?_ ?_ _) | (with_reducible refine Reach.trans ?_ (by with_reducible assumption)) | (show _ ≤ Addr.block _; first | (exact Nat.le_refl _) | (show (_ : Nat) ≤ _; omega)) | (simp; done) | (simp; omega))))))) | (go_at_call 32; with_reducible exact reg_reach (HSV.out _ (Env.reach HE.out (by (repeat (first | (with_reducible assumption) | (with_reducible exact Reach.refl _) | (with_reducible refine Reach.alloc ?_ _) | (with_reducible refine Reach.drew ?_) | (with_reducible refine Reach.drewN ?_ _) | (with_reducible refine Reach.grow ?_ _ _) | (with_reducible refine Reach.setCell ?_ ?_ _) | (with_reducible refine Reach.trans ?_ (by with_reducible assumption)) | (show _ ≤ Addr.block _; first | (exact Nat.le_refl _) | (show (_ : Nat) ≤ _; omega)) | (simp; done) | (simp; omega)))))))))) | (refine wpQuiet_step (fun K hK => ?_); go_simp; split <;> (refine hK _ ?_; clear hK K))))); all_goals (refine wpQuiet_nil ?_; intro _ hw'; obtain ⟨⟨dq, osq⟩, hw''⟩ := hw'; subst hw'')))
            go_ret
            exact ⟨rfl, by (repeat (first | (with_reducible assumption) | (with_reducible exact Reach.refl _) | (with_reducible refine Reach.alloc ?_ _) | (with_reducible refine Reach.drew ?_) | (with_reducible refine Reach.drewN ?_ _) | (with_reducible refine Reach.grow ?_ _ _) | (with_reducible refine Reach.setCell ?_ ?_ _) | (with_reducible refine Reach.trans ?_ (by with_reducible assumption)) | (show _ ≤ Addr.block _; first | (exact Nat.le_refl _) | (show (_ : Nat) ≤ _; omega)) | (simp; done) | (simp; omega)))⟩
        · cases t1 : (x1 == [104, 116, 116, 112, 115]) <;> cases t2 : (x1 == [119, 115, 115])
          all_goals
            simp only [Bool.not_true, Bool.false_and] at e1
            simp only [e1] at hsa
            have HSA := Lib.hid hsa
            clear hsa e1
            go_enter Tryz.func9, Tryz.ntmps9
            go_wp2_with fail
            have BA : Blk (w.alloc (.cells #[.bool true, .string ⟨a.toArray⟩, .string ⟨b.toArray⟩, .int .i64 n, .string ⟨c.toArray⟩, .string ⟨d.toArray⟩] 23)) (w.heap.size) #[.bool true, .string ⟨a.toArray⟩, .string ⟨b.toArray⟩, .int .i64 n, .string ⟨c.toArray⟩, .string ⟨d.toArray⟩] 23 := by have h := Blk.new w #[.bool true, .string ⟨a.toArray⟩, .string ⟨b.toArray⟩, .int .i64 n, .string ⟨c.toArray⟩, .string ⟨d.toArray⟩] 23; exact h
            have Q : Reach w _ := Reach.alloc (Reach.refl w) (.cells #[.bool true, .string ⟨a.toArray⟩, .string ⟨b.toArray⟩, .int .i64 n, .string ⟨c.toArray⟩, .string ⟨d.toArray⟩] 23)
            generalize w.alloc (.cells #[.bool true, .string ⟨a.toArray⟩, .string ⟨b.toArray⟩, .int .i64 n, .string ⟨c.toArray⟩, .string ⟨d.toArray⟩] 23) = W0 at BA Q ⊢
            refine Calls.mono (HBA.out _) ?_
            rintro e W1 ⟨rfl, hr⟩
            replace BA := BA.reach hr
            replace Q := Reach.trans Q hr
            clear hr
            obtain ⟨x0_0, x0_1, x0_2, x0_3, x0_4, x0_5⟩ := BA.six
            have xl0 := BA.lt
            go_wp2_with fail
            clear x0_0 x0_1 x0_2 x0_3 x0_4 x0_5 xl0
            refine Calls.mono (HSA.out _ (Env.reach HE.out Q)) ?_
            rintro e W2 ⟨rfl, hr⟩
            replace BA := BA.reach hr
            replace Q := Reach.trans Q hr
            clear hr
            obtain ⟨x0_0, x0_1, x0_2, x0_3, x0_4, x0_5⟩ := BA.six
            have xl0 := BA.lt
            go_wp2_with fail
            clear x0_0 x0_1 x0_2 x0_3 x0_4 x0_5 xl0
            refine Calls.mono (HOA.out _ (Env.reach HE.out Q)) ?_
            rintro e W3 ⟨rfl, hr⟩
            replace BA := BA.reach hr
            replace Q := Reach.trans Q hr
            clear hr
            obtain ⟨x0_0, x0_1, x0_2, x0_3, x0_4, x0_5⟩ := BA.six
            have xl0 := BA.lt
            go_wp2_with fail
            clear x0_0 x0_1 x0_2 x0_3 x0_4 x0_5 xl0
            have BX : Blk (W3.alloc (.cells #[.bool true, .string ⟨x1.toArray⟩, .string ⟨x2.toArray⟩, .int .i64 x3] 34)) (W3.heap.size) #[.bool true, .string ⟨x1.toArray⟩, .string ⟨x2.toArray⟩, .int .i64 x3] 34 := by have h := Blk.new W3 #[.bool true, .string ⟨x1.toArray⟩, .string ⟨x2.toArray⟩, .int .i64 x3] 34; exact h
            replace BA := BA.reach (Reach.alloc (Reach.refl _) (.cells #[.bool true, .string ⟨x1.toArray⟩, .string ⟨x2.toArray⟩, .int .i64 x3] 34))
            replace Q := Reach.alloc Q (.cells #[.bool true, .string ⟨x1.toArray⟩, .string ⟨x2.toArray⟩, .int .i64 x3] 34)
            have BV : Blk ((W3.alloc (.cells #[.bool true, .string ⟨x1.toArray⟩, .string ⟨x2.toArray⟩, .int .i64 x3] 34)).alloc (.cells #[.bool true, .string ⟨a.toArray⟩, .string ⟨b.toArray⟩, .int .i64 n, .string ⟨#[47]⟩, .string ⟨#[]⟩] 23)) (W3.heap.size + 1) #[.bool true, .string ⟨a.toArray⟩, .string ⟨b.toArray⟩, .int .i64 n, .string ⟨#[47]⟩, .string ⟨#[]⟩] 23 := by have h := Blk.new (W3.alloc (.cells #[.bool true, .string ⟨x1.toArray⟩, .string ⟨x2.toArray⟩, .int .i64 x3] 34)) #[.bool true, .string ⟨a.toArray⟩, .string ⟨b.toArray⟩, .int .i64 n, .string ⟨#[47]⟩, .string ⟨#[]⟩] 23; rw [World.size_alloc] at h; exact h
            replace BA := BA.reach (Reach.alloc (Reach.refl _) (.cells #[.bool true, .string ⟨a.toArray⟩, .string ⟨b.toArray⟩, .int .i64 n, .string ⟨#[47]⟩, .string ⟨#[]⟩] 23))
            replace BX := BX.reach (Reach.alloc (Reach.refl _) (.cells #[.bool true, .string ⟨a.toArray⟩, .string ⟨b.toArray⟩, .int .i64 n, .string ⟨#[47]⟩, .string ⟨#[]⟩] 23))
            replace Q := Reach.alloc Q (.cells #[.bool true, .string ⟨a.toArray⟩, .string ⟨b.toArray⟩, .int .i64 n, .string ⟨#[47]⟩, .string ⟨#[]⟩] 23)
            generalize (W3.alloc (.cells #[.bool true, .string ⟨x1.toArray⟩, .string ⟨x2.toArray⟩, .int .i64 x3] 34)).alloc (.cells #[.bool true, .string ⟨a.toArray⟩, .string ⟨b.toArray⟩, .int .i64 n, .string ⟨#[47]⟩, .string ⟨#[]⟩] 23) = X4 at BA BX BV Q ⊢
            generalize W3.heap.size = nBX at *
            refine Calls.mono (HCA.out _ (Env.reach HE.out Q)) ?_
            rintro e W5 ⟨rfl, hr⟩
            replace BA := BA.reach hr
            replace BX := BX.reach hr
            replace BV := BV.reach hr
            replace Q := Reach.trans Q hr
            clear hr
            obtain ⟨x0_0, x0_1, x0_2, x0_3⟩ := BX.four
            have xl0 := BX.lt
            obtain ⟨x1_0, x1_1, x1_2, x1_3, x1_4, x1_5⟩ := BA.six
            have xl1 := BA.lt
            clear BA BX BV
            go_wp2_with (first | (go_at_call 29; (with_reducible refine Calls.mono (froms_calls _ (Env.reach HE.out (by (repeat (first | (with_reducible assumption) | (with_reducible exact Reach.refl _) | (with_reducible refine Reach.alloc ?_ _) | (with_reducible refine Reach.drew ?_) | (with_reducible refine Reach.drewN ?_ _) | (with_reducible refine Reach.grow ?_ _ _) | (with_reducible refine Reach.setCell ?_ ?_ _) | (with_reducible refine Reach.trans ?_ (by with_reducible assumption)) | (show _ ≤ Addr.block _; first | (exact Nat.le_refl _) | (show (_ : Nat) ≤ _; omega)) | (simp; done) | (simp; omega)))))) ?_); rintro e w' ⟨rfl, hb⟩; obtain ⟨hc, hf, hz⟩ := Reach.facts hb) | (go_at_call 32; (with_reducible refine Calls.mono (HSV.out _ (Env.reach HE.out (by (repeat (first | (with_reducible assumption) | (with_reducible exact Reach.refl _) | (with_reducible refine Reach.alloc ?_ _) | (with_reducible refine Reach.drew ?_) | (with_reducible refine Reach.drewN ?_ _) | (with_reducible refine Reach.grow ?_ _ _) | (with_reducible refine Reach.setCell ?_ ?_ _) | (with_reducible refine Reach.trans ?_ (by with_reducible assumption)) | (show _ ≤ Addr.block _; first | (exact Nat.le_refl _) | (show (_ : Nat) ≤ _; omega)) | (simp; done) | (simp; omega)))))) ?_); rintro e w' ⟨rfl, hb⟩; obtain ⟨hc, hf, hz⟩ := Reach.facts hb) | ((with_reducible refine wp_region_quiet_below (by kernel_rfl) (by kernel_rfl) ?_); (repeat (any_goals (first | (go_big_quiet_step ((first | (go_at_call 29; with_reducible exact reg_reach (froms_calls _ (Env.reach HE.out (by (repeat (first | (with_reducible assumption) | (with_reducible exact Reach.refl _) | (with_reducible refine Reach.alloc ?_ _) | (with_reducible refine Reach.drew ?_) | (with_reducible refine Reach.drewN ?_ _) | (with_reducible refine Reach.grow ?_ _ _) | (with_reducible refine Reach.setCell ?_ ?_ _) | (with_reducible refine Reach.trans ?_ (by with_reducible assumption)) | (show _ ≤ Addr.block _; first | (exact Nat.le_refl _) | (show (_ : Nat) ≤ _; omega)) | (simp; done) | (simp; omega))))))) | (go_at_call 32; with_reducible exact reg_reach (HSV.out _ (Env.reach HE.out (by (repeat (first | (with_reducible assumption) | (with_reducible exact Reach.refl _) | (with_reducible refine Reach.alloc ?_ _) | (with_reducible refine Reach.drew ?_) | (with_reducible refine Reach.drewN ?_ _) | (with_reducible refine Reach.grow ?_ _ _) | (with_reducible refine Reach.setCell ?_ ?_ _) | (with_reducible refine Reach.trans ?_ (by with_reducible assumption)) | (show _ ≤ Addr.block _; first | (exact Nat.le_refl _) | (show (_ : Nat) ≤ _; omega)) | (simp; done) | (simp; omega)))))))))) | (quiet_step ((first | (go_at_call 29; with_reducible exact reg_reach (froms_calls _ (Env.reach HE.out (by (repeat (first | (with_reducible assumption) | (with_reducible exact Reach.refl _) | (with_reducible refine Reach.alloc ?_ _) | (with_reducible refine Reach.drew ?_) | (with_reducible refine Reach.drewN ?_ _) | (with_reducible refine Reach.grow ?_ _ _) | (with_reducible refine Reach.setCell ?_ ?_ _) | (with_reducible refine Reach.trans ?_ (by with_reducible assumption)) | (show _ ≤ Addr.block _; first | (exact Nat.le_refl _) | (show (_ : Nat) ≤ _; omega)) | (simp; done) | (simp; omega))))))) | (go_at_call 32; with_reducible exact reg_reach (HSV.out _ (Env.reach HE.out (by (repeat (first | (with_reducible assumption) | (with_reducible exact Reach.refl _) | (with_reducible refine Reach.alloc ?_ _) | (with_reducible refine Reach.drew ?_) | (with_reducible refine Reach.drewN ?_ _) | (with_reducible refine Reach.grow ?_ _ _) | (with_reducible refine Reach.setCell ?_ ?_ _) | (with_reducible refine Reach.trans ?_ (by with_reducible assumption)) | (show _ ≤ Addr.block _; first | (exact Nat.le_refl _) | (show (_ : Nat) ≤ _; omega)) | (simp; done) | (simp; omega)))))))))) | (refine wpQuiet_step (fun K hK => ?_); go_simp; split <;> (refine hK _ ?_; clear hK K))))); all_goals (refine wpQuiet_nil ?_; intro _ hw'; obtain ⟨⟨dq, osq⟩, hw''⟩ := hw'; subst hw'')))
            go_ret
            exact ⟨rfl, by (repeat (first | (with_reducible assumption) | (with_reducible exact Reach.refl _) | (with_reducible refine Reach.alloc ?_ _) | (with_reducible refine Reach.drew ?_) | (with_reducible refine Reach.drewN ?_ _) | (with_reducible refine Reach.grow ?_ _ _) | (with_reducible refine Reach.setCell ?_ ?_ _) | (with_reducible refine Reach.trans ?_ (by with_reducible assumption)) | (show _ ≤ Addr.block _; first | (exact Nat.le_refl _) | (show (_ : Nat) ≤ _; omega)) | (simp; done) | (simp; omega)))⟩
  · rw [hbig] at hba
    have HBA := Lib.hid hba
    clear hba hbig
    go_enter Tryz.func9, Tryz.ntmps9
    go_wp2_with (first | (go_at_call 24; (with_reducible refine Calls.mono (HBA.out _) ?_); rintro e w' ⟨rfl, hb⟩; obtain ⟨hc, hf, hz⟩ := Reach.facts hb) | ((with_reducible refine wp_region_quiet_below (by kernel_rfl) (by kernel_rfl) ?_); (repeat (any_goals (first | (go_big_quiet_step ((first | (go_at_call 24; with_reducible exact reg_reach (HBA.out _))))) | (quiet_step ((first | (go_at_call 24; with_reducible exact reg_reach (HBA.out _))))) | (refine wpQuiet_step (fun K hK => ?_); go_simp; split <;> (refine hK _ ?_; clear hK K))))); all_goals (refine wpQuiet_nil ?_; intro _ hw'; obtain ⟨⟨dq, osq⟩, hw''⟩ := hw'; subst hw'')))
    go_ret
    exact ⟨rfl, by (repeat (first | (with_reducible assumption) | (with_reducible exact Reach.refl _) | (with_reducible refine Reach.alloc ?_ _) | (with_reducible refine Reach.drew ?_) | (with_reducible refine Reach.drewN ?_ _) | (with_reducible refine Reach.grow ?_ _ _) | (with_reducible refine Reach.setCell ?_ ?_ _) | (with_reducible refine Reach.trans ?_ (by with_reducible assumption)) | (show _ ≤ Addr.block _; first | (exact Nat.le_refl _) | (show (_ : Nat) ≤ _; omega)) | (simp; done) | (simp; omega)))⟩
end Go.Proofs.YtbpijmmhgdemlaaGreatDoor
