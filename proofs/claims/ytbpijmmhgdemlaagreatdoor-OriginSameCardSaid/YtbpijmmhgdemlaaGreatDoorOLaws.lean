/- The laws on origins that ask no reference, walked. -/
import Derived.Test.YtbpijmmhgdemlaaGreatDoorProg
import Derived.Test.YtbpijmmhgdemlaaGreatDoorBig
import Derived.Test.YtbpijmmhgdemlaaGreatDoorFroms
import Derived.Test.YtbpijmmhgdemlaaGreatDoorEqS
namespace Go.Proofs.YtbpijmmhgdemlaaGreatDoor
open Go.RowKit Go.Sort
attribute [local go_sem] get_mk mk_append mk_extract0 mk_extract_end mk_extract_cons empty_mk cell_grow frozen_grow size_grow
attribute [local go_sem ↓] run_eql_org run_neq_org run_eql_url run_neq_url
theorem orgOf_bounds (u : URL) (h1 : -9223372036854775808 ≤ u.port) (h2 : u.port ≤ 9223372036854775807) : (orgOf u).sch.length ≤ u.sch.length ∧ (orgOf u).host.length ≤ u.host.length ∧ -9223372036854775808 ≤ (orgOf u).port ∧ (orgOf u).port ≤ 9223372036854775807 := by
  have := defPort_bounds u.sch
  unfold orgOf
  split
  · refine ⟨Nat.le_refl _, Nat.le_refl _, ?_, ?_⟩
    · show -9223372036854775808 ≤ ownPort u
      unfold ownPort
      split <;> omega
    · show ownPort u ≤ 9223372036854775807
      unfold ownPort
      split <;> omega
  · simp [noOrg]
theorem bigB_no {a b c d : List UInt8} (h : bigB a b c d = false) : a.length ≤ 2000 ∧ b.length ≤ 2000 ∧ c.length ≤ 2000 ∧ d.length ≤ 2000 := by
  simp [bigB] at h
  omega
set_option maxRecDepth 100000 in
set_option maxHeartbeats 4000000 in
theorem otexts_calls (o : Bool) (a b : List UInt8) (n : Int) (c d : List UInt8) (o' : Bool) (a' b' : List UInt8) (n' : Int) (c' d' : List UInt8) (w : World) (h1 : -9223372036854775808 ≤ n) (h2 : n ≤ 9223372036854775807) (h1' : -9223372036854775808 ≤ n') (h2' : n' ≤ 9223372036854775807) (hE : Env w) :
    Calls Tryz.prog 8 #[.agg #[.bool o, .string ⟨a.toArray⟩, .string ⟨b.toArray⟩, .int .i64 n, .string ⟨c.toArray⟩, .string ⟨d.toArray⟩], .agg #[.bool o', .string ⟨a'.toArray⟩, .string ⟨b'.toArray⟩, .int .i64 n', .string ⟨c'.toArray⟩, .string ⟨d'.toArray⟩]] w fun e w' => e = .returned (.bool true) ∧ Reach w w' := by
  have HE := Lib.hid hE
  clear hE
  have hba := fun W => big_calls o a b n c d W
  have hbb := fun W => big_calls o' a' b' n' c' d' W
  cases hbig : bigB a b c d
  · cases hbig2 : bigB a' b' c' d'
    · rw [hbig] at hba
      rw [hbig2] at hbb
      have HBA := Lib.hid hba
      have HBB := Lib.hid hbb
      clear hba hbb
      obtain ⟨l1, l2, l3, l4⟩ := bigB_no hbig
      obtain ⟨l1', l2', l3', l4'⟩ := bigB_no hbig2
      clear hbig hbig2
      have hoa := fun W (hE : Env W) => of_calls o a b n c d W h1 h2 (by omega) (by omega) (by omega) (by omega) hE
      have hob := fun W (hE : Env W) => of_calls o' a' b' n' c' d' W h1' h2' (by omega) (by omega) (by omega) (by omega) hE
      have ht := org_texts ⟨o, a, b, n, c, d⟩ ⟨o', a', b', n', c', d'⟩
      obtain ⟨m1, m2, m3, m4⟩ := orgOf_bounds ⟨o, a, b, n, c, d⟩ h1 h2
      obtain ⟨m1', m2', m3', m4'⟩ := orgOf_bounds ⟨o', a', b', n', c', d'⟩ h1' h2'
      simp only at m1 m2 m1' m2'
      generalize orgOf ⟨o, a, b, n, c, d⟩ = x at *
      generalize orgOf ⟨o', a', b', n', c', d'⟩ = y at *
      obtain ⟨x0, x1, x2, x3⟩ := x
      obtain ⟨y0, y1, y2, y3⟩ := y
      simp only at m1 m2 m3 m4 m1' m2' m3' m4'
      have hta := fun W (hE : Env W) => otext_calls x0 x1 x2 x3 W m3 m4 (by omega) (by omega) hE
      have htb := fun W (hE : Env W) => otext_calls y0 y1 y2 y3 W m3' m4' (by omega) (by omega) hE
      generalize orgText ⟨x0, x1, x2, x3⟩ = tx at *
      generalize orgText ⟨y0, y1, y2, y3⟩ = ty at *
      unfold orgV at hoa hob hta htb
      have HOA := Lib.hid hoa
      have HOB := Lib.hid hob
      have HTA := Lib.hid hta
      have HTB := Lib.hid htb
      clear hoa hob hta htb m1 m2 m3 m4 m1' m2' m3' m4' l1 l2 l3 l4 l1' l2' l3' l4' h1 h2 h1' h2'
      by_cases he : (⟨x0, x1, x2, x3⟩ : Org) = ⟨y0, y1, y2, y3⟩
      · rw [he, orgEq_self] at ht
        obtain ⟨rfl, rfl, rfl, rfl⟩ := (Org.mk.injEq ..).mp he
        obtain rfl : tx = ty := by simpa using ht
        have hf := orgEq_self ⟨x0, x1, x2, x3⟩
        clear he ht
        go_enter Tryz.func8, Tryz.ntmps8
        go_wp2_with fail
        have BA : Blk (w.alloc (.cells #[.bool o, .string ⟨a.toArray⟩, .string ⟨b.toArray⟩, .int .i64 n, .string ⟨c.toArray⟩, .string ⟨d.toArray⟩] 23)) (w.heap.size) #[.bool o, .string ⟨a.toArray⟩, .string ⟨b.toArray⟩, .int .i64 n, .string ⟨c.toArray⟩, .string ⟨d.toArray⟩] 23 := by have h := Blk.new w #[.bool o, .string ⟨a.toArray⟩, .string ⟨b.toArray⟩, .int .i64 n, .string ⟨c.toArray⟩, .string ⟨d.toArray⟩] 23; exact h
        have BB : Blk ((w.alloc (.cells #[.bool o, .string ⟨a.toArray⟩, .string ⟨b.toArray⟩, .int .i64 n, .string ⟨c.toArray⟩, .string ⟨d.toArray⟩] 23)).alloc (.cells #[.bool o', .string ⟨a'.toArray⟩, .string ⟨b'.toArray⟩, .int .i64 n', .string ⟨c'.toArray⟩, .string ⟨d'.toArray⟩] 23)) (w.heap.size + 1) #[.bool o', .string ⟨a'.toArray⟩, .string ⟨b'.toArray⟩, .int .i64 n', .string ⟨c'.toArray⟩, .string ⟨d'.toArray⟩] 23 := by have h := Blk.new (w.alloc (.cells #[.bool o, .string ⟨a.toArray⟩, .string ⟨b.toArray⟩, .int .i64 n, .string ⟨c.toArray⟩, .string ⟨d.toArray⟩] 23)) #[.bool o', .string ⟨a'.toArray⟩, .string ⟨b'.toArray⟩, .int .i64 n', .string ⟨c'.toArray⟩, .string ⟨d'.toArray⟩] 23; rw [World.size_alloc] at h; exact h
        replace BA := BA.reach (Reach.alloc (Reach.refl _) (.cells #[.bool o', .string ⟨a'.toArray⟩, .string ⟨b'.toArray⟩, .int .i64 n', .string ⟨c'.toArray⟩, .string ⟨d'.toArray⟩] 23))
        have Q : Reach w _ := Reach.alloc (Reach.alloc (Reach.refl w) (.cells #[.bool o, .string ⟨a.toArray⟩, .string ⟨b.toArray⟩, .int .i64 n, .string ⟨c.toArray⟩, .string ⟨d.toArray⟩] 23)) (.cells #[.bool o', .string ⟨a'.toArray⟩, .string ⟨b'.toArray⟩, .int .i64 n', .string ⟨c'.toArray⟩, .string ⟨d'.toArray⟩] 23)
        generalize (w.alloc (.cells #[.bool o, .string ⟨a.toArray⟩, .string ⟨b.toArray⟩, .int .i64 n, .string ⟨c.toArray⟩, .string ⟨d.toArray⟩] 23)).alloc (.cells #[.bool o', .string ⟨a'.toArray⟩, .string ⟨b'.toArray⟩, .int .i64 n', .string ⟨c'.toArray⟩, .string ⟨d'.toArray⟩] 23) = W0 at BA BB Q ⊢
        refine Calls.mono (HBA.out _) ?_
        rintro e W1 ⟨rfl, hr⟩
        replace BA := BA.reach hr
        replace BB := BB.reach hr
        replace Q := Reach.trans Q hr
        clear hr
        obtain ⟨x0_0, x0_1, x0_2, x0_3, x0_4, x0_5⟩ := BA.six
        have xl0 := BA.lt
        obtain ⟨x1_0, x1_1, x1_2, x1_3, x1_4, x1_5⟩ := BB.six
        have xl1 := BB.lt
        go_wp2_with fail
        clear x0_0 x0_1 x0_2 x0_3 x0_4 x0_5 xl0 x1_0 x1_1 x1_2 x1_3 x1_4 x1_5 xl1
        refine Calls.mono (HBB.out _) ?_
        rintro e W2 ⟨rfl, hr⟩
        replace BA := BA.reach hr
        replace BB := BB.reach hr
        replace Q := Reach.trans Q hr
        clear hr
        obtain ⟨x0_0, x0_1, x0_2, x0_3, x0_4, x0_5⟩ := BA.six
        have xl0 := BA.lt
        obtain ⟨x1_0, x1_1, x1_2, x1_3, x1_4, x1_5⟩ := BB.six
        have xl1 := BB.lt
        go_wp2_with fail
        clear x0_0 x0_1 x0_2 x0_3 x0_4 x0_5 xl0 x1_0 x1_1 x1_2 x1_3 x1_4 x1_5 xl1
        refine Calls.mono (HOA.out _ (Env.reach HE.out Q)) ?_
        rintro e W3 ⟨rfl, hr⟩
        replace BB := BB.reach hr
        replace Q := Reach.trans Q hr
        clear hr
        obtain ⟨x0_0, x0_1, x0_2, x0_3, x0_4, x0_5⟩ := BB.six
        have xl0 := BB.lt
        go_wp2_with fail
        clear x0_0 x0_1 x0_2 x0_3 x0_4 x0_5 xl0
        have BX := Blk.new W3 #[.bool x0, .string ⟨x1.toArray⟩, .string ⟨x2.toArray⟩, .int .i64 x3] 34
        replace Q := Reach.alloc Q (.cells #[.bool x0, .string ⟨x1.toArray⟩, .string ⟨x2.toArray⟩, .int .i64 x3] 34)
        generalize W3.alloc (.cells #[.bool x0, .string ⟨x1.toArray⟩, .string ⟨x2.toArray⟩, .int .i64 x3] 34) = X3 at BX Q ⊢
        generalize W3.heap.size = nBX at *
        refine Calls.mono (HOB.out _ (Env.reach HE.out Q)) ?_
        rintro e W4 ⟨rfl, hr⟩
        replace BX := BX.reach hr
        replace Q := Reach.trans Q hr
        clear hr
        obtain ⟨x0_0, x0_1, x0_2, x0_3⟩ := BX.four
        have xl0 := BX.lt
        go_wp2_with fail
        clear x0_0 x0_1 x0_2 x0_3 xl0
        have BY := Blk.new W4 #[.bool x0, .string ⟨x1.toArray⟩, .string ⟨x2.toArray⟩, .int .i64 x3] 34
        replace BX := BX.reach (Reach.alloc (Reach.refl _) (.cells #[.bool x0, .string ⟨x1.toArray⟩, .string ⟨x2.toArray⟩, .int .i64 x3] 34))
        replace Q := Reach.alloc Q (.cells #[.bool x0, .string ⟨x1.toArray⟩, .string ⟨x2.toArray⟩, .int .i64 x3] 34)
        generalize W4.alloc (.cells #[.bool x0, .string ⟨x1.toArray⟩, .string ⟨x2.toArray⟩, .int .i64 x3] 34) = X4 at BY BX Q ⊢
        generalize W4.heap.size = nBY at *
        obtain ⟨x0_0, x0_1, x0_2, x0_3⟩ := BX.four
        have xl0 := BX.lt
        obtain ⟨x1_0, x1_1, x1_2, x1_3⟩ := BY.four
        have xl1 := BY.lt
        clear BX BY BA BB
        go_wp2_with (first | (go_at_call 29; (with_reducible refine Calls.mono (froms_calls _ (Env.reach HE.out (by (repeat (first | (with_reducible assumption) | (with_reducible exact Reach.refl _) | (with_reducible refine Reach.alloc ?_ _) | (with_reducible refine Reach.drew ?_) | (with_reducible refine Reach.drewN ?_ _) | (with_reducible refine Reach.grow ?_ _ _) | (with_reducible refine Reach.setCell ?_ ?_ _) | (with_reducible refine Reach.trans ?_ (by with_reducible assumption)) | (show _ ≤ Addr.block _; first | (exact Nat.le_refl _) | (show (_ : Nat) ≤ _; omega)) | (simp; done) | (simp; omega)))))) ?_); rintro e w' ⟨rfl, hb⟩; obtain ⟨hc, hf, hz⟩ := Reach.facts hb) | (go_at_call 36; (with_reducible refine Calls.mono (HTA.out _ (Env.reach HE.out (by (repeat (first | (with_reducible assumption) | (with_reducible exact Reach.refl _) | (with_reducible refine Reach.alloc ?_ _) | (with_reducible refine Reach.drew ?_) | (with_reducible refine Reach.drewN ?_ _) | (with_reducible refine Reach.grow ?_ _ _) | (with_reducible refine Reach.setCell ?_ ?_ _) | (with_reducible refine Reach.trans ?_ (by with_reducible assumption)) | (show _ ≤ Addr.block _; first | (exact Nat.le_refl _) | (show (_ : Nat) ≤ _; omega)) | (simp; done) | (simp; omega)))))) ?_); rintro e w' ⟨rfl, hb⟩; obtain ⟨hc, hf, hz⟩ := Reach.facts hb) | (go_at_call 36; (with_reducible refine Calls.mono (HTB.out _ (Env.reach HE.out (by (repeat (first | (with_reducible assumption) | (with_reducible exact Reach.refl _) | (with_reducible refine Reach.alloc ?_ _) | (with_reducible refine Reach.drew ?_) | (with_reducible refine Reach.drewN ?_ _) | (with_reducible refine Reach.grow ?_ _ _) | (with_reducible refine Reach.setCell ?_ ?_ _) | (with_reducible refine Reach.trans ?_ (by with_reducible assumption)) | (show _ ≤ Addr.block _; first | (exact Nat.le_refl _) | (show (_ : Nat) ≤ _; omega)) | (simp; done) | (simp; omega)))))) ?_); rintro e w' ⟨rfl, hb⟩; obtain ⟨hc, hf, hz⟩ := Reach.facts hb) | ((with_reducible refine wp_region_quiet_below (by kernel_rfl) (by kernel_rfl) ?_); (repeat (any_goals (first | (go_big_quiet_step ((first | (go_at_call 29; with_reducible exact reg_reach (froms_calls _ (Env.reach HE.out (by (repeat (first | (with_reducible assumption) | (with_reducible exact Reach.refl _) | (with_reducible refine Reach.alloc ?_ _) | (with_reducible refine Reach.drew ?_) | (with_reducible refine Reach.drewN ?_ _) | (with_reducible refine Reach.grow ?_ _ _) | (with_reducible refine Reach.setCell ?_ ?_ _) | (with_reducible refine Reach.trans ?_ (by with_reducible assumption)) | (show _ ≤ Addr.block _; first | (exact Nat.le_refl _) | (show (_ : Nat) ≤ _; omega)) | (simp; done) | (simp; omega))))))) | (go_at_call 36; with_reducible exact reg_reach (HTA.out _ (Env.reach HE.out (by (repeat (first | (with_reducible assumption) | (with_reducible exact Reach.refl _) | (with_reducible refine Reach.alloc ?_ _) | (with_reducible refine Reach.drew ?_) | (with_reducible refine Reach.drewN ?_ _) | (with_reducible refine Reach.grow ?_ _ _) | (with_reducible refine Reach.setCell ?_ ?_ _) | (with_reducible refine Reach.trans ?_ (by with_reducible assumption)) | (show _ ≤ Addr.block _; first | (exact Nat.le_refl _) | (show (_ : Nat) ≤ _; omega)) | (simp; done) | (simp; omega))))))) | (go_at_call 36; with_reducible exact reg_reach (HTB.out _ (Env.reach HE.out (by (repeat (first | (with_reducible assumption) | (with_reducible exact Reach.refl _) | (with_reducible refine Reach.alloc ?_ _) | (with_reducible refine Reach.drew ?_) | (with_reducible refine Reach.drewN ?_ _) | (with_reducible refine Reach.grow ?_ _ _) | (with_reducible refine Reach.setCell ?_ ?_ _) | (with_reducible refine Reach.trans ?_ (by with_reducible assumption)) | (show _ ≤ Addr.block _; first | (exact Nat.le_refl _) | (show (_ : Nat) ≤ _; omega)) | (simp; done) | (simp; omega)))))))))) | (quiet_step ((first | (go_at_call 29; with_reducible exact reg_reach (froms_calls _ (Env.reach HE.out (by (repeat (first | (with_reducible assumption) | (with_reducible exact Reach.refl _) | (with_reducible refine Reach.alloc ?_ _) | (with_reducible refine Reach.drew ?_) | (with_reducible refine Reach.drewN ?_ _) | (with_reducible refine Reach.grow ?_ _ _) | (with_reducible refine Reach.setCell ?_ ?_ _) | (with_reducible refine Reach.trans ?_ (by with_reducible assumption)) | (show _ ≤ Addr.block _; first | (exact Nat.le_refl _) | (show (_ : Nat) ≤ _; omega)) | (simp; done) | (simp; omega))))))) | (go_at_call 36; with_reducible exact reg_reach (HTA.out _ (Env.reach HE.out (by (repeat (first | (with_reducible assumption) | (with_reducible exact Reach.refl _) | (with_reducible refine Reach.alloc ?_ _) | (with_reducible refine Reach.drew ?_) | (with_reducible refine Reach.drewN ?_ _) | (with_reducible refine Reach.grow ?_ _ _) | (with_reducible refine Reach.setCell ?_ ?_ _) | (with_reducible refine Reach.trans ?_ (by with_reducible assumption)) | (show _ ≤ Addr.block _; first | (exact Nat.le_refl _) | (show (_ : Nat) ≤ _; omega)) | (simp; done) | (simp; omega))))))) | (go_at_call 36; with_reducible exact reg_reach (HTB.out _ (Env.reach HE.out (by (repeat (first | (with_reducible assumption) | (with_reducible exact Reach.refl _) | (with_reducible refine Reach.alloc ?_ _) | (with_reducible refine Reach.drew ?_) | (with_reducible refine Reach.drewN ?_ _) | (with_reducible refine Reach.grow ?_ _ _) | (with_reducible refine Reach.setCell ?_ ?_ _) | (with_reducible refine Reach.trans ?_ (by with_reducible assumption)) | (show _ ≤ Addr.block _; first | (exact Nat.le_refl _) | (show (_ : Nat) ≤ _; omega)) | (simp; done) | (simp; omega)))))))))) | (refine wpQuiet_step (fun K hK => ?_); go_simp; split <;> (refine hK _ ?_; clear hK K))))); all_goals (refine wpQuiet_nil ?_; intro _ hw'; obtain ⟨⟨dq, osq⟩, hw''⟩ := hw'; subst hw'')))
        go_ret
        exact ⟨rfl, by (repeat (first | (with_reducible assumption) | (with_reducible exact Reach.refl _) | (with_reducible refine Reach.alloc ?_ _) | (with_reducible refine Reach.drew ?_) | (with_reducible refine Reach.drewN ?_ _) | (with_reducible refine Reach.grow ?_ _ _) | (with_reducible refine Reach.setCell ?_ ?_ _) | (with_reducible refine Reach.trans ?_ (by with_reducible assumption)) | (show _ ≤ Addr.block _; first | (exact Nat.le_refl _) | (show (_ : Nat) ≤ _; omega)) | (simp; done) | (simp; omega)))⟩
      · have hf : orgEq ⟨x0, x1, x2, x3⟩ ⟨y0, y1, y2, y3⟩ = false := by
          cases h : orgEq ⟨x0, x1, x2, x3⟩ ⟨y0, y1, y2, y3⟩
          · rfl
          · exact absurd ((orgEq_iff _ _).1 h) he
        rw [hf] at ht
        clear he
        go_enter Tryz.func8, Tryz.ntmps8
        go_wp2_with fail
        have BA : Blk (w.alloc (.cells #[.bool o, .string ⟨a.toArray⟩, .string ⟨b.toArray⟩, .int .i64 n, .string ⟨c.toArray⟩, .string ⟨d.toArray⟩] 23)) (w.heap.size) #[.bool o, .string ⟨a.toArray⟩, .string ⟨b.toArray⟩, .int .i64 n, .string ⟨c.toArray⟩, .string ⟨d.toArray⟩] 23 := by have h := Blk.new w #[.bool o, .string ⟨a.toArray⟩, .string ⟨b.toArray⟩, .int .i64 n, .string ⟨c.toArray⟩, .string ⟨d.toArray⟩] 23; exact h
        have BB : Blk ((w.alloc (.cells #[.bool o, .string ⟨a.toArray⟩, .string ⟨b.toArray⟩, .int .i64 n, .string ⟨c.toArray⟩, .string ⟨d.toArray⟩] 23)).alloc (.cells #[.bool o', .string ⟨a'.toArray⟩, .string ⟨b'.toArray⟩, .int .i64 n', .string ⟨c'.toArray⟩, .string ⟨d'.toArray⟩] 23)) (w.heap.size + 1) #[.bool o', .string ⟨a'.toArray⟩, .string ⟨b'.toArray⟩, .int .i64 n', .string ⟨c'.toArray⟩, .string ⟨d'.toArray⟩] 23 := by have h := Blk.new (w.alloc (.cells #[.bool o, .string ⟨a.toArray⟩, .string ⟨b.toArray⟩, .int .i64 n, .string ⟨c.toArray⟩, .string ⟨d.toArray⟩] 23)) #[.bool o', .string ⟨a'.toArray⟩, .string ⟨b'.toArray⟩, .int .i64 n', .string ⟨c'.toArray⟩, .string ⟨d'.toArray⟩] 23; rw [World.size_alloc] at h; exact h
        replace BA := BA.reach (Reach.alloc (Reach.refl _) (.cells #[.bool o', .string ⟨a'.toArray⟩, .string ⟨b'.toArray⟩, .int .i64 n', .string ⟨c'.toArray⟩, .string ⟨d'.toArray⟩] 23))
        have Q : Reach w _ := Reach.alloc (Reach.alloc (Reach.refl w) (.cells #[.bool o, .string ⟨a.toArray⟩, .string ⟨b.toArray⟩, .int .i64 n, .string ⟨c.toArray⟩, .string ⟨d.toArray⟩] 23)) (.cells #[.bool o', .string ⟨a'.toArray⟩, .string ⟨b'.toArray⟩, .int .i64 n', .string ⟨c'.toArray⟩, .string ⟨d'.toArray⟩] 23)
        generalize (w.alloc (.cells #[.bool o, .string ⟨a.toArray⟩, .string ⟨b.toArray⟩, .int .i64 n, .string ⟨c.toArray⟩, .string ⟨d.toArray⟩] 23)).alloc (.cells #[.bool o', .string ⟨a'.toArray⟩, .string ⟨b'.toArray⟩, .int .i64 n', .string ⟨c'.toArray⟩, .string ⟨d'.toArray⟩] 23) = W0 at BA BB Q ⊢
        refine Calls.mono (HBA.out _) ?_
        rintro e W1 ⟨rfl, hr⟩
        replace BA := BA.reach hr
        replace BB := BB.reach hr
        replace Q := Reach.trans Q hr
        clear hr
        obtain ⟨x0_0, x0_1, x0_2, x0_3, x0_4, x0_5⟩ := BA.six
        have xl0 := BA.lt
        obtain ⟨x1_0, x1_1, x1_2, x1_3, x1_4, x1_5⟩ := BB.six
        have xl1 := BB.lt
        go_wp2_with fail
        clear x0_0 x0_1 x0_2 x0_3 x0_4 x0_5 xl0 x1_0 x1_1 x1_2 x1_3 x1_4 x1_5 xl1
        refine Calls.mono (HBB.out _) ?_
        rintro e W2 ⟨rfl, hr⟩
        replace BA := BA.reach hr
        replace BB := BB.reach hr
        replace Q := Reach.trans Q hr
        clear hr
        obtain ⟨x0_0, x0_1, x0_2, x0_3, x0_4, x0_5⟩ := BA.six
        have xl0 := BA.lt
        obtain ⟨x1_0, x1_1, x1_2, x1_3, x1_4, x1_5⟩ := BB.six
        have xl1 := BB.lt
        go_wp2_with fail
        clear x0_0 x0_1 x0_2 x0_3 x0_4 x0_5 xl0 x1_0 x1_1 x1_2 x1_3 x1_4 x1_5 xl1
        refine Calls.mono (HOA.out _ (Env.reach HE.out Q)) ?_
        rintro e W3 ⟨rfl, hr⟩
        replace BB := BB.reach hr
        replace Q := Reach.trans Q hr
        clear hr
        obtain ⟨x0_0, x0_1, x0_2, x0_3, x0_4, x0_5⟩ := BB.six
        have xl0 := BB.lt
        go_wp2_with fail
        clear x0_0 x0_1 x0_2 x0_3 x0_4 x0_5 xl0
        have BX := Blk.new W3 #[.bool x0, .string ⟨x1.toArray⟩, .string ⟨x2.toArray⟩, .int .i64 x3] 34
        replace Q := Reach.alloc Q (.cells #[.bool x0, .string ⟨x1.toArray⟩, .string ⟨x2.toArray⟩, .int .i64 x3] 34)
        generalize W3.alloc (.cells #[.bool x0, .string ⟨x1.toArray⟩, .string ⟨x2.toArray⟩, .int .i64 x3] 34) = X3 at BX Q ⊢
        generalize W3.heap.size = nBX at *
        refine Calls.mono (HOB.out _ (Env.reach HE.out Q)) ?_
        rintro e W4 ⟨rfl, hr⟩
        replace BX := BX.reach hr
        replace Q := Reach.trans Q hr
        clear hr
        obtain ⟨x0_0, x0_1, x0_2, x0_3⟩ := BX.four
        have xl0 := BX.lt
        go_wp2_with fail
        clear x0_0 x0_1 x0_2 x0_3 xl0
        have BY := Blk.new W4 #[.bool y0, .string ⟨y1.toArray⟩, .string ⟨y2.toArray⟩, .int .i64 y3] 34
        replace BX := BX.reach (Reach.alloc (Reach.refl _) (.cells #[.bool y0, .string ⟨y1.toArray⟩, .string ⟨y2.toArray⟩, .int .i64 y3] 34))
        replace Q := Reach.alloc Q (.cells #[.bool y0, .string ⟨y1.toArray⟩, .string ⟨y2.toArray⟩, .int .i64 y3] 34)
        generalize W4.alloc (.cells #[.bool y0, .string ⟨y1.toArray⟩, .string ⟨y2.toArray⟩, .int .i64 y3] 34) = X4 at BY BX Q ⊢
        generalize W4.heap.size = nBY at *
        obtain ⟨x0_0, x0_1, x0_2, x0_3⟩ := BX.four
        have xl0 := BX.lt
        obtain ⟨x1_0, x1_1, x1_2, x1_3⟩ := BY.four
        have xl1 := BY.lt
        clear BX BY BA BB
        go_wp2_with (first | (go_at_call 29; (with_reducible refine Calls.mono (froms_calls _ (Env.reach HE.out (by (repeat (first | (with_reducible assumption) | (with_reducible exact Reach.refl _) | (with_reducible refine Reach.alloc ?_ _) | (with_reducible refine Reach.drew ?_) | (with_reducible refine Reach.drewN ?_ _) | (with_reducible refine Reach.grow ?_ _ _) | (with_reducible refine Reach.setCell ?_ ?_ _) | (with_reducible refine Reach.trans ?_ (by with_reducible assumption)) | (show _ ≤ Addr.block _; first | (exact Nat.le_refl _) | (show (_ : Nat) ≤ _; omega)) | (simp; done) | (simp; omega)))))) ?_); rintro e w' ⟨rfl, hb⟩; obtain ⟨hc, hf, hz⟩ := Reach.facts hb) | (go_at_call 36; (with_reducible refine Calls.mono (HTA.out _ (Env.reach HE.out (by (repeat (first | (with_reducible assumption) | (with_reducible exact Reach.refl _) | (with_reducible refine Reach.alloc ?_ _) | (with_reducible refine Reach.drew ?_) | (with_reducible refine Reach.drewN ?_ _) | (with_reducible refine Reach.grow ?_ _ _) | (with_reducible refine Reach.setCell ?_ ?_ _) | (with_reducible refine Reach.trans ?_ (by with_reducible assumption)) | (show _ ≤ Addr.block _; first | (exact Nat.le_refl _) | (show (_ : Nat) ≤ _; omega)) | (simp; done) | (simp; omega)))))) ?_); rintro e w' ⟨rfl, hb⟩; obtain ⟨hc, hf, hz⟩ := Reach.facts hb) | (go_at_call 36; (with_reducible refine Calls.mono (HTB.out _ (Env.reach HE.out (by (repeat (first | (with_reducible assumption) | (with_reducible exact Reach.refl _) | (with_reducible refine Reach.alloc ?_ _) | (with_reducible refine Reach.drew ?_) | (with_reducible refine Reach.drewN ?_ _) | (with_reducible refine Reach.grow ?_ _ _) | (with_reducible refine Reach.setCell ?_ ?_ _) | (with_reducible refine Reach.trans ?_ (by with_reducible assumption)) | (show _ ≤ Addr.block _; first | (exact Nat.le_refl _) | (show (_ : Nat) ≤ _; omega)) | (simp; done) | (simp; omega)))))) ?_); rintro e w' ⟨rfl, hb⟩; obtain ⟨hc, hf, hz⟩ := Reach.facts hb) | ((with_reducible refine wp_region_quiet_below (by kernel_rfl) (by kernel_rfl) ?_); (repeat (any_goals (first | (go_big_quiet_step ((first | (go_at_call 29; with_reducible exact reg_reach (froms_calls _ (Env.reach HE.out (by (repeat (first | (with_reducible assumption) | (with_reducible exact Reach.refl _) | (with_reducible refine Reach.alloc ?_ _) | (with_reducible refine Reach.drew ?_) | (with_reducible refine Reach.drewN ?_ _) | (with_reducible refine Reach.grow ?_ _ _) | (with_reducible refine Reach.setCell ?_ ?_ _) | (with_reducible refine Reach.trans ?_ (by with_reducible assumption)) | (show _ ≤ Addr.block _; first | (exact Nat.le_refl _) | (show (_ : Nat) ≤ _; omega)) | (simp; done) | (simp; omega))))))) | (go_at_call 36; with_reducible exact reg_reach (HTA.out _ (Env.reach HE.out (by (repeat (first | (with_reducible assumption) | (with_reducible exact Reach.refl _) | (with_reducible refine Reach.alloc ?_ _) | (with_reducible refine Reach.drew ?_) | (with_reducible refine Reach.drewN ?_ _) | (with_reducible refine Reach.grow ?_ _ _) | (with_reducible refine Reach.setCell ?_ ?_ _) | (with_reducible refine Reach.trans ?_ (by with_reducible assumption)) | (show _ ≤ Addr.block _; first | (exact Nat.le_refl _) | (show (_ : Nat) ≤ _; omega)) | (simp; done) | (simp; omega))))))) | (go_at_call 36; with_reducible exact reg_reach (HTB.out _ (Env.reach HE.out (by (repeat (first | (with_reducible assumption) | (with_reducible exact Reach.refl _) | (with_reducible refine Reach.alloc ?_ _) | (with_reducible refine Reach.drew ?_) | (with_reducible refine Reach.drewN ?_ _) | (with_reducible refine Reach.grow ?_ _ _) | (with_reducible refine Reach.setCell ?_ ?_ _) | (with_reducible refine Reach.trans ?_ (by with_reducible assumption)) | (show _ ≤ Addr.block _; first | (exact Nat.le_refl _) | (show (_ : Nat) ≤ _; omega)) | (simp; done) | (simp; omega)))))))))) | (quiet_step ((first | (go_at_call 29; with_reducible exact reg_reach (froms_calls _ (Env.reach HE.out (by (repeat (first | (with_reducible assumption) | (with_reducible exact Reach.refl _) | (with_reducible refine Reach.alloc ?_ _) | (with_reducible refine Reach.drew ?_) | (with_reducible refine Reach.drewN ?_ _) | (with_reducible refine Reach.grow ?_ _ _) | (with_reducible refine Reach.setCell ?_ ?_ _) | (with_reducible refine Reach.trans ?_ (by with_reducible assumption)) | (show _ ≤ Addr.block _; first | (exact Nat.le_refl _) | (show (_ : Nat) ≤ _; omega)) | (simp; done) | (simp; omega))))))) | (go_at_call 36; with_reducible exact reg_reach (HTA.out _ (Env.reach HE.out (by (repeat (first | (with_reducible assumption) | (with_reducible exact Reach.refl _) | (with_reducible refine Reach.alloc ?_ _) | (with_reducible refine Reach.drew ?_) | (with_reducible refine Reach.drewN ?_ _) | (with_reducible refine Reach.grow ?_ _ _) | (with_reducible refine Reach.setCell ?_ ?_ _) | (with_reducible refine Reach.trans ?_ (by with_reducible assumption)) | (show _ ≤ Addr.block _; first | (exact Nat.le_refl _) | (show (_ : Nat) ≤ _; omega)) | (simp; done) | (simp; omega))))))) | (go_at_call 36; with_reducible exact reg_reach (HTB.out _ (Env.reach HE.out (by (repeat (first | (with_reducible assumption) | (with_reducible exact Reach.refl _) | (with_reducible refine Reach.alloc ?_ _) | (with_reducible refine Reach.drew ?_) | (with_reducible refine Reach.drewN ?_ _) | (with_reducible refine Reach.grow ?_ _ _) | (with_reducible refine Reach.setCell ?_ ?_ _) | (with_reducible refine Reach.trans ?_ (by with_reducible assumption)) | (show _ ≤ Addr.block _; first | (exact Nat.le_refl _) | (show (_ : Nat) ≤ _; omega)) | (simp; done) | (simp; omega)))))))))) | (refine wpQuiet_step (fun K hK => ?_); go_simp; split <;> (refine hK _ ?_; clear hK K))))); all_goals (refine wpQuiet_nil ?_; intro _ hw'; obtain ⟨⟨dq, osq⟩, hw''⟩ := hw'; subst hw'')))
        go_ret
        exact ⟨rfl, by (repeat (first | (with_reducible assumption) | (with_reducible exact Reach.refl _) | (with_reducible refine Reach.alloc ?_ _) | (with_reducible refine Reach.drew ?_) | (with_reducible refine Reach.drewN ?_ _) | (with_reducible refine Reach.grow ?_ _ _) | (with_reducible refine Reach.setCell ?_ ?_ _) | (with_reducible refine Reach.trans ?_ (by with_reducible assumption)) | (show _ ≤ Addr.block _; first | (exact Nat.le_refl _) | (show (_ : Nat) ≤ _; omega)) | (simp; done) | (simp; omega)))⟩
    · rw [hbig] at hba
      rw [hbig2] at hbb
      have HBA := Lib.hid hba
      have HBB := Lib.hid hbb
      clear hba hbb hbig hbig2
      go_enter Tryz.func8, Tryz.ntmps8
      go_wp2_with fail
      have BA : Blk (w.alloc (.cells #[.bool o, .string ⟨a.toArray⟩, .string ⟨b.toArray⟩, .int .i64 n, .string ⟨c.toArray⟩, .string ⟨d.toArray⟩] 23)) (w.heap.size) #[.bool o, .string ⟨a.toArray⟩, .string ⟨b.toArray⟩, .int .i64 n, .string ⟨c.toArray⟩, .string ⟨d.toArray⟩] 23 := by have h := Blk.new w #[.bool o, .string ⟨a.toArray⟩, .string ⟨b.toArray⟩, .int .i64 n, .string ⟨c.toArray⟩, .string ⟨d.toArray⟩] 23; exact h
      have BB : Blk ((w.alloc (.cells #[.bool o, .string ⟨a.toArray⟩, .string ⟨b.toArray⟩, .int .i64 n, .string ⟨c.toArray⟩, .string ⟨d.toArray⟩] 23)).alloc (.cells #[.bool o', .string ⟨a'.toArray⟩, .string ⟨b'.toArray⟩, .int .i64 n', .string ⟨c'.toArray⟩, .string ⟨d'.toArray⟩] 23)) (w.heap.size + 1) #[.bool o', .string ⟨a'.toArray⟩, .string ⟨b'.toArray⟩, .int .i64 n', .string ⟨c'.toArray⟩, .string ⟨d'.toArray⟩] 23 := by have h := Blk.new (w.alloc (.cells #[.bool o, .string ⟨a.toArray⟩, .string ⟨b.toArray⟩, .int .i64 n, .string ⟨c.toArray⟩, .string ⟨d.toArray⟩] 23)) #[.bool o', .string ⟨a'.toArray⟩, .string ⟨b'.toArray⟩, .int .i64 n', .string ⟨c'.toArray⟩, .string ⟨d'.toArray⟩] 23; rw [World.size_alloc] at h; exact h
      replace BA := BA.reach (Reach.alloc (Reach.refl _) (.cells #[.bool o', .string ⟨a'.toArray⟩, .string ⟨b'.toArray⟩, .int .i64 n', .string ⟨c'.toArray⟩, .string ⟨d'.toArray⟩] 23))
      have Q : Reach w _ := Reach.alloc (Reach.alloc (Reach.refl w) (.cells #[.bool o, .string ⟨a.toArray⟩, .string ⟨b.toArray⟩, .int .i64 n, .string ⟨c.toArray⟩, .string ⟨d.toArray⟩] 23)) (.cells #[.bool o', .string ⟨a'.toArray⟩, .string ⟨b'.toArray⟩, .int .i64 n', .string ⟨c'.toArray⟩, .string ⟨d'.toArray⟩] 23)
      generalize (w.alloc (.cells #[.bool o, .string ⟨a.toArray⟩, .string ⟨b.toArray⟩, .int .i64 n, .string ⟨c.toArray⟩, .string ⟨d.toArray⟩] 23)).alloc (.cells #[.bool o', .string ⟨a'.toArray⟩, .string ⟨b'.toArray⟩, .int .i64 n', .string ⟨c'.toArray⟩, .string ⟨d'.toArray⟩] 23) = W0 at BA BB Q ⊢
      refine Calls.mono (HBA.out _) ?_
      rintro e W1 ⟨rfl, hr⟩
      replace BA := BA.reach hr
      replace BB := BB.reach hr
      replace Q := Reach.trans Q hr
      clear hr
      obtain ⟨x0_0, x0_1, x0_2, x0_3, x0_4, x0_5⟩ := BA.six
      have xl0 := BA.lt
      obtain ⟨x1_0, x1_1, x1_2, x1_3, x1_4, x1_5⟩ := BB.six
      have xl1 := BB.lt
      go_wp2_with fail
      clear x0_0 x0_1 x0_2 x0_3 x0_4 x0_5 xl0 x1_0 x1_1 x1_2 x1_3 x1_4 x1_5 xl1
      refine Calls.mono (HBB.out _) ?_
      rintro e W2 ⟨rfl, hr⟩
      replace BA := BA.reach hr
      replace BB := BB.reach hr
      replace Q := Reach.trans Q hr
      clear hr
      go_wp2_with fail
      go_ret
      exact ⟨rfl, by (repeat (first | (with_reducible assumption) | (with_reducible exact Reach.refl _) | (with_reducible refine Reach.alloc ?_ _) | (with_reducible refine Reach.drew ?_) | (with_reducible refine Reach.drewN ?_ _) | (with_reducible refine Reach.grow ?_ _ _) | (with_reducible refine Reach.setCell ?_ ?_ _) | (with_reducible refine Reach.trans ?_ (by with_reducible assumption)) | (show _ ≤ Addr.block _; first | (exact Nat.le_refl _) | (show (_ : Nat) ≤ _; omega)) | (simp; done) | (simp; omega)))⟩
  · rw [hbig] at hba
    have HBA := Lib.hid hba
    clear hba hbb hbig
    go_enter Tryz.func8, Tryz.ntmps8
    go_wp2_with (first | (go_at_call 24; (with_reducible refine Calls.mono (HBA.out _) ?_); rintro e w' ⟨rfl, hb⟩; obtain ⟨hc, hf, hz⟩ := Reach.facts hb) | ((with_reducible refine wp_region_quiet_below (by kernel_rfl) (by kernel_rfl) ?_); (repeat (any_goals (first | (go_big_quiet_step ((first | (go_at_call 24; with_reducible exact reg_reach (HBA.out _))))) | (quiet_step ((first | (go_at_call 24; with_reducible exact reg_reach (HBA.out _))))) | (refine wpQuiet_step (fun K hK => ?_); go_simp; split <;> (refine hK _ ?_; clear hK K))))); all_goals (refine wpQuiet_nil ?_; intro _ hw'; obtain ⟨⟨dq, osq⟩, hw''⟩ := hw'; subst hw'')))
    go_ret
    exact ⟨rfl, by (repeat (first | (with_reducible assumption) | (with_reducible exact Reach.refl _) | (with_reducible refine Reach.alloc ?_ _) | (with_reducible refine Reach.drew ?_) | (with_reducible refine Reach.drewN ?_ _) | (with_reducible refine Reach.grow ?_ _ _) | (with_reducible refine Reach.setCell ?_ ?_ _) | (with_reducible refine Reach.trans ?_ (by with_reducible assumption)) | (show _ ≤ Addr.block _; first | (exact Nat.le_refl _) | (show (_ : Nat) ≤ _; omega)) | (simp; done) | (simp; omega)))⟩
end Go.Proofs.YtbpijmmhgdemlaaGreatDoor
