/- The law UrlLoose, walked. -/
import Derived.Test.YtbpijmmhgdemlaaDoorProg
import Derived.Test.YtbpijmmhgdemlaaDoorPureF
import Derived.Test.YtbpijmmhgdemlaaDoorPureK
import Derived.Test.YtbpijmmhgdemlaaDoorEqU
import Derived.Test.YtbpijmmhgdemlaaDoorFold
import Derived.Test.YtbpijmmhgdemlaaDoorParses
namespace Go.Proofs.YtbpijmmhgdemlaaDoor
open Go.RowKit Go.Sort
attribute [local go_sem] get_mk mk_append mk_extract0 mk_extract_end mk_extract_cons empty_mk cell_grow frozen_grow size_grow
attribute [local go_sem ↓] run_eql_url run_neq_url
theorem parsedU (s : List UInt8) (u : URL) (e : Int) (hu : parseU s = u) (he : parseE s = e) (W : World) (hs : s.length ≤ 400000) (hE : Env W) :
    Calls Tryd.prog 12 #[.string ⟨s.toArray⟩] W fun x w' =>
      x = .returned (.tuple #[.agg #[.bool u.opq, .string ⟨u.sch.toArray⟩, .string ⟨u.host.toArray⟩, .int .i64 u.port, .string ⟨u.path.toArray⟩, .string ⟨u.query.toArray⟩], .int .i64 e]) ∧ Reach W w' := by
  subst hu he
  exact parse_calls s W hs hE
set_option maxRecDepth 100000 in
set_option maxHeartbeats 4000000 in
theorem loose_calls (s m : List UInt8) (w : World) (hE : Env w) : Calls Tryd.prog 4 #[.string ⟨s.toArray⟩, .string ⟨m.toArray⟩] w fun e w' => e = .returned (.bool true) ∧ Reach w w' := by
  have HE := Lib.hid hE
  clear hE
  by_cases hl : (3000 : Int) < s.length
  · go_enter Tryd.func4, Tryd.ntmps4
    go_wp2_with (first | ((with_reducible refine wp_region_quiet_below (by kernel_rfl) (by kernel_rfl) ?_); (repeat (any_goals (first | (go_big_quiet_step (fail)) | (quiet_step (fail)) | (refine wpQuiet_step (fun K hK => ?_); go_simp; split <;> (refine hK _ ?_; clear hK K))))); all_goals (refine wpQuiet_nil ?_; intro _ hw'; obtain ⟨⟨dq, osq⟩, hw''⟩ := hw'; subst hw'')))
    go_ret
    exact ⟨rfl, by (repeat (first | (with_reducible assumption) | (with_reducible exact Reach.refl _) | (with_reducible refine Reach.alloc ?_ _) | (with_reducible refine Reach.drew ?_) | (with_reducible refine Reach.drewN ?_ _) | (with_reducible refine Reach.grow ?_ _ _) | (with_reducible refine Reach.setCell ?_ ?_ _) | (with_reducible refine Reach.trans ?_ (by with_reducible assumption)) | (show _ ≤ Addr.block _; first | (exact Nat.le_refl _) | (show (_ : Nat) ≤ _; omega)) | (simp; done) | (simp; omega)))⟩
  by_cases hm : (200 : Int) < m.length
  · go_enter Tryd.func4, Tryd.ntmps4
    go_wp2_with (first | ((with_reducible refine wp_region_quiet_below (by kernel_rfl) (by kernel_rfl) ?_); (repeat (any_goals (first | (go_big_quiet_step (fail)) | (quiet_step (fail)) | (refine wpQuiet_step (fun K hK => ?_); go_simp; split <;> (refine hK _ ?_; clear hK K))))); all_goals (refine wpQuiet_nil ?_; intro _ hw'; obtain ⟨⟨dq, osq⟩, hw''⟩ := hw'; subst hw'')))
    go_ret
    exact ⟨rfl, by (repeat (first | (with_reducible assumption) | (with_reducible exact Reach.refl _) | (with_reducible refine Reach.alloc ?_ _) | (with_reducible refine Reach.drew ?_) | (with_reducible refine Reach.drewN ?_ _) | (with_reducible refine Reach.grow ?_ _ _) | (with_reducible refine Reach.setCell ?_ ?_ _) | (with_reducible refine Reach.trans ?_ (by with_reducible assumption)) | (show _ ≤ Addr.block _; first | (exact Nat.le_refl _) | (show (_ : Nat) ≤ _; omega)) | (simp; done) | (simp; omega)))⟩
  have hbl := loose_blanks s
  rw [show ([32, 9] ++ s ++ [10] : List UInt8) = 32 :: 9 :: (s ++ [10]) by simp] at hbl
  obtain ⟨b1, b2⟩ := hbl
  cases hp : parseB s
  · have e1 : parseU s = zeroU := by unfold parseU; rw [hp]; rfl
    have e2 : parseE s = 50 := by unfold parseE; rw [hp]; rfl
    have hpa := fun W (hE : Env W) => parsedU s zeroU 50 e1 e2 W (by omega) hE
    have hpb := fun W (hE : Env W) => parsedU (32 :: 9 :: (s ++ [10])) zeroU 50 (b1.trans e1) (b2.trans e2) W (by simp; omega) hE
    have hpc := fun W (hE : Env W) => parse_calls (s ++ 35 :: m) W (by simp; omega) hE
    generalize parseU (s ++ 35 :: m) = v at hpc
    generalize parseE (s ++ 35 :: m) = g at hpc
    obtain ⟨v0, v1, v2, v3, v4, v5⟩ := v
    simp only [zeroU] at hpa hpb
    have HPA := Lib.hid hpa
    have HPB := Lib.hid hpb
    have HPC := Lib.hid hpc
    have hu := urlEq_self zeroU
    simp only [zeroU] at hu
    clear hpa hpb hpc b1 b2 e1 e2 hp
    go_enter Tryd.func4, Tryd.ntmps4
    have Q := Reach.refl w
    go_wp2_with fail
    (with_reducible refine Calls.mono (HPA.out _ (Env.reach HE.out Q)) ?_)
    rintro e W1 ⟨rfl, hr⟩
    replace Q := Reach.trans Q hr
    clear hr
    go_wp2_with fail
    have BA : Blk (W1.alloc (.cells #[.bool false, .string ⟨#[]⟩, .string ⟨#[]⟩, .int .i64 0, .string ⟨#[]⟩, .string ⟨#[]⟩] 27)) (W1.heap.size) #[.bool false, .string ⟨#[]⟩, .string ⟨#[]⟩, .int .i64 0, .string ⟨#[]⟩, .string ⟨#[]⟩] 27 := by have h := Blk.new W1 #[.bool false, .string ⟨#[]⟩, .string ⟨#[]⟩, .int .i64 0, .string ⟨#[]⟩, .string ⟨#[]⟩] 27; exact h
    replace Q := Reach.alloc Q (.cells #[.bool false, .string ⟨#[]⟩, .string ⟨#[]⟩, .int .i64 0, .string ⟨#[]⟩, .string ⟨#[]⟩] 27)
    generalize W1.alloc (.cells #[.bool false, .string ⟨#[]⟩, .string ⟨#[]⟩, .int .i64 0, .string ⟨#[]⟩, .string ⟨#[]⟩] 27) = X1 at BA Q ⊢
    generalize W1.heap.size = nBA at *
    (with_reducible refine Calls.mono (HPB.out _ (Env.reach HE.out Q)) ?_)
    rintro e W2 ⟨rfl, hr⟩
    replace BA := BA.reach hr
    replace Q := Reach.trans Q hr
    clear hr
    obtain ⟨x0_0, x0_1, x0_2, x0_3, x0_4, x0_5⟩ := BA.six
    have xl0 := BA.lt
    go_wp2_with fail
    clear x0_0 x0_1 x0_2 x0_3 x0_4 x0_5 xl0
    have BB : Blk (W2.alloc (.cells #[.bool false, .string ⟨#[]⟩, .string ⟨#[]⟩, .int .i64 0, .string ⟨#[]⟩, .string ⟨#[]⟩] 27)) (W2.heap.size) #[.bool false, .string ⟨#[]⟩, .string ⟨#[]⟩, .int .i64 0, .string ⟨#[]⟩, .string ⟨#[]⟩] 27 := by have h := Blk.new W2 #[.bool false, .string ⟨#[]⟩, .string ⟨#[]⟩, .int .i64 0, .string ⟨#[]⟩, .string ⟨#[]⟩] 27; exact h
    replace BA := BA.reach (Reach.alloc (Reach.refl _) (.cells #[.bool false, .string ⟨#[]⟩, .string ⟨#[]⟩, .int .i64 0, .string ⟨#[]⟩, .string ⟨#[]⟩] 27))
    replace Q := Reach.alloc Q (.cells #[.bool false, .string ⟨#[]⟩, .string ⟨#[]⟩, .int .i64 0, .string ⟨#[]⟩, .string ⟨#[]⟩] 27)
    generalize W2.alloc (.cells #[.bool false, .string ⟨#[]⟩, .string ⟨#[]⟩, .int .i64 0, .string ⟨#[]⟩, .string ⟨#[]⟩] 27) = X2 at BA BB Q ⊢
    generalize W2.heap.size = nBB at *
    (with_reducible refine Calls.mono (HPC.out _ (Env.reach HE.out Q)) ?_)
    rintro e W3 ⟨rfl, hr⟩
    replace BA := BA.reach hr
    replace BB := BB.reach hr
    replace Q := Reach.trans Q hr
    clear hr
    obtain ⟨x0_0, x0_1, x0_2, x0_3, x0_4, x0_5⟩ := BA.six
    have xl0 := BA.lt
    obtain ⟨x1_0, x1_1, x1_2, x1_3, x1_4, x1_5⟩ := BB.six
    have xl1 := BB.lt
    go_wp2_with fail
    clear x0_0 x0_1 x0_2 x0_3 x0_4 x0_5 xl0 x1_0 x1_1 x1_2 x1_3 x1_4 x1_5 xl1
    have BC : Blk (W3.alloc (.cells #[.bool v0, .string ⟨v1.toArray⟩, .string ⟨v2.toArray⟩, .int .i64 v3, .string ⟨v4.toArray⟩, .string ⟨v5.toArray⟩] 27)) (W3.heap.size) #[.bool v0, .string ⟨v1.toArray⟩, .string ⟨v2.toArray⟩, .int .i64 v3, .string ⟨v4.toArray⟩, .string ⟨v5.toArray⟩] 27 := by have h := Blk.new W3 #[.bool v0, .string ⟨v1.toArray⟩, .string ⟨v2.toArray⟩, .int .i64 v3, .string ⟨v4.toArray⟩, .string ⟨v5.toArray⟩] 27; exact h
    replace BA := BA.reach (Reach.alloc (Reach.refl _) (.cells #[.bool v0, .string ⟨v1.toArray⟩, .string ⟨v2.toArray⟩, .int .i64 v3, .string ⟨v4.toArray⟩, .string ⟨v5.toArray⟩] 27))
    replace BB := BB.reach (Reach.alloc (Reach.refl _) (.cells #[.bool v0, .string ⟨v1.toArray⟩, .string ⟨v2.toArray⟩, .int .i64 v3, .string ⟨v4.toArray⟩, .string ⟨v5.toArray⟩] 27))
    replace Q := Reach.alloc Q (.cells #[.bool v0, .string ⟨v1.toArray⟩, .string ⟨v2.toArray⟩, .int .i64 v3, .string ⟨v4.toArray⟩, .string ⟨v5.toArray⟩] 27)
    generalize W3.alloc (.cells #[.bool v0, .string ⟨v1.toArray⟩, .string ⟨v2.toArray⟩, .int .i64 v3, .string ⟨v4.toArray⟩, .string ⟨v5.toArray⟩] 27) = X3 at BA BB BC Q ⊢
    generalize W3.heap.size = nBC at *
    obtain ⟨x0_0, x0_1, x0_2, x0_3, x0_4, x0_5⟩ := BA.six
    have xl0 := BA.lt
    obtain ⟨x1_0, x1_1, x1_2, x1_3, x1_4, x1_5⟩ := BB.six
    have xl1 := BB.lt
    obtain ⟨x2_0, x2_1, x2_2, x2_3, x2_4, x2_5⟩ := BC.six
    have xl2 := BC.lt
    clear BA BB BC
    go_wp2_with (first | (go_at_call 7; (with_reducible refine Calls.mono (parses_calls _ (Env.reach HE.out (by (repeat (first | (with_reducible assumption) | (with_reducible exact Reach.refl _) | (with_reducible refine Reach.alloc ?_ _) | (with_reducible refine Reach.drew ?_) | (with_reducible refine Reach.drewN ?_ _) | (with_reducible refine Reach.grow ?_ _ _) | (with_reducible refine Reach.setCell ?_ ?_ _) | (with_reducible refine Reach.trans ?_ (by with_reducible assumption)) | (show _ ≤ Addr.block _; first | (exact Nat.le_refl _) | (show (_ : Nat) ≤ _; omega)) | (simp; done) | (simp; omega)))))) ?_); rintro e w' ⟨rfl, hb⟩; obtain ⟨hc, hf, hz⟩ := Reach.facts hb) | ((with_reducible refine wp_region_quiet_below (by kernel_rfl) (by kernel_rfl) ?_); (repeat (any_goals (first | (go_big_quiet_step ((first | (go_at_call 7; with_reducible exact reg_reach (parses_calls _ (Env.reach HE.out (by (repeat (first | (with_reducible assumption) | (with_reducible exact Reach.refl _) | (with_reducible refine Reach.alloc ?_ _) | (with_reducible refine Reach.drew ?_) | (with_reducible refine Reach.drewN ?_ _) | (with_reducible refine Reach.grow ?_ _ _) | (with_reducible refine Reach.setCell ?_ ?_ _) | (with_reducible refine Reach.trans ?_ (by with_reducible assumption)) | (show _ ≤ Addr.block _; first | (exact Nat.le_refl _) | (show (_ : Nat) ≤ _; omega)) | (simp; done) | (simp; omega)))))))))) | (quiet_step ((first | (go_at_call 7; with_reducible exact reg_reach (parses_calls _ (Env.reach HE.out (by (repeat (first | (with_reducible assumption) | (with_reducible exact Reach.refl _) | (with_reducible refine Reach.alloc ?_ _) | (with_reducible refine Reach.drew ?_) | (with_reducible refine Reach.drewN ?_ _) | (with_reducible refine Reach.grow ?_ _ _) | (with_reducible refine Reach.setCell ?_ ?_ _) | (with_reducible refine Reach.trans ?_ (by with_reducible assumption)) | (show _ ≤ Addr.block _; first | (exact Nat.le_refl _) | (show (_ : Nat) ≤ _; omega)) | (simp; done) | (simp; omega)))))))))) | (refine wpQuiet_step (fun K hK => ?_); go_simp; split <;> (refine hK _ ?_; clear hK K))))); all_goals (refine wpQuiet_nil ?_; intro _ hw'; obtain ⟨⟨dq, osq⟩, hw''⟩ := hw'; subst hw'')))
    go_ret
    exact ⟨rfl, by (repeat (first | (with_reducible assumption) | (with_reducible exact Reach.refl _) | (with_reducible refine Reach.alloc ?_ _) | (with_reducible refine Reach.drew ?_) | (with_reducible refine Reach.drewN ?_ _) | (with_reducible refine Reach.grow ?_ _ _) | (with_reducible refine Reach.setCell ?_ ?_ _) | (with_reducible refine Reach.trans ?_ (by with_reducible assumption)) | (show _ ≤ Addr.block _; first | (exact Nat.le_refl _) | (show (_ : Nat) ≤ _; omega)) | (simp; done) | (simp; omega)))⟩
  · have hck := parseU_right s hp
    obtain ⟨s1, s2, s3, s4, s5, s6⟩ := small_of _ hck
    obtain ⟨w1, w2⟩ := checkB_small _ hck
    have e2 : parseE s = 0 := by unfold parseE; rw [hp]; rfl
    have hlh : trimL s = s → parseU (s ++ 35 :: m) = parseU s ∧ parseE (s ++ 35 :: m) = parseE s := loose_hash s m hp
    rw [e2] at b2 hlh
    generalize hu0 : parseU s = u at *
    have hpa := fun W (hE : Env W) => parsedU s u 0 hu0 e2 W (by omega) hE
    have hpb := fun W (hE : Env W) => parsedU (32 :: 9 :: (s ++ [10])) u 0 b1 b2 W (by simp; omega) hE
    have hla := fun W => lower_calls u.sch W (by omega)
    have hlb := fun W => lower_calls u.host W (by omega)
    rw [w1] at hla
    rw [w2] at hlb
    have hT := fun W => trim_calls s W (by omega)
    have hue := urlEq_self u
    by_cases htr : trimL s = s
    · obtain ⟨c1, c2⟩ := hlh htr
      have hpc := fun W (hE : Env W) => parsedU (s ++ 35 :: m) u 0 c1 c2 W (by simp; omega) hE
      rw [htr] at hT
      clear b1 b2 c1 c2 hu0 e2 hp hlh hck w1 w2 s1 s2 s3 s4 s5 s6 htr
      obtain ⟨u0, u1, u2, u3, u4, u5⟩ := u
      simp only at hpa hpb hpc hla hlb
      have HPA := Lib.hid hpa
      have HPB := Lib.hid hpb
      have HPC := Lib.hid hpc
      have HLA := Lib.hid hla
      have HLB := Lib.hid hlb
      have HT := Lib.hid hT
      clear hpa hpb hpc hla hlb hT
      go_enter Tryd.func4, Tryd.ntmps4
      have Q := Reach.refl w
      go_wp2_with fail
      (with_reducible refine Calls.mono (HPA.out _ (Env.reach HE.out Q)) ?_)
      rintro e W1 ⟨rfl, hr⟩
      replace Q := Reach.trans Q hr
      clear hr
      go_wp2_with fail
      have BA : Blk (W1.alloc (.cells #[.bool u0, .string ⟨u1.toArray⟩, .string ⟨u2.toArray⟩, .int .i64 u3, .string ⟨u4.toArray⟩, .string ⟨u5.toArray⟩] 27)) (W1.heap.size) #[.bool u0, .string ⟨u1.toArray⟩, .string ⟨u2.toArray⟩, .int .i64 u3, .string ⟨u4.toArray⟩, .string ⟨u5.toArray⟩] 27 := by have h := Blk.new W1 #[.bool u0, .string ⟨u1.toArray⟩, .string ⟨u2.toArray⟩, .int .i64 u3, .string ⟨u4.toArray⟩, .string ⟨u5.toArray⟩] 27; exact h
      replace Q := Reach.alloc Q (.cells #[.bool u0, .string ⟨u1.toArray⟩, .string ⟨u2.toArray⟩, .int .i64 u3, .string ⟨u4.toArray⟩, .string ⟨u5.toArray⟩] 27)
      generalize W1.alloc (.cells #[.bool u0, .string ⟨u1.toArray⟩, .string ⟨u2.toArray⟩, .int .i64 u3, .string ⟨u4.toArray⟩, .string ⟨u5.toArray⟩] 27) = X1 at BA Q ⊢
      generalize W1.heap.size = nBA at *
      (with_reducible refine Calls.mono (HPB.out _ (Env.reach HE.out Q)) ?_)
      rintro e W2 ⟨rfl, hr⟩
      replace BA := BA.reach hr
      replace Q := Reach.trans Q hr
      clear hr
      obtain ⟨x0_0, x0_1, x0_2, x0_3, x0_4, x0_5⟩ := BA.six
      have xl0 := BA.lt
      go_wp2_with fail
      clear x0_0 x0_1 x0_2 x0_3 x0_4 x0_5 xl0
      have BB : Blk (W2.alloc (.cells #[.bool u0, .string ⟨u1.toArray⟩, .string ⟨u2.toArray⟩, .int .i64 u3, .string ⟨u4.toArray⟩, .string ⟨u5.toArray⟩] 27)) (W2.heap.size) #[.bool u0, .string ⟨u1.toArray⟩, .string ⟨u2.toArray⟩, .int .i64 u3, .string ⟨u4.toArray⟩, .string ⟨u5.toArray⟩] 27 := by have h := Blk.new W2 #[.bool u0, .string ⟨u1.toArray⟩, .string ⟨u2.toArray⟩, .int .i64 u3, .string ⟨u4.toArray⟩, .string ⟨u5.toArray⟩] 27; exact h
      replace BA := BA.reach (Reach.alloc (Reach.refl _) (.cells #[.bool u0, .string ⟨u1.toArray⟩, .string ⟨u2.toArray⟩, .int .i64 u3, .string ⟨u4.toArray⟩, .string ⟨u5.toArray⟩] 27))
      replace Q := Reach.alloc Q (.cells #[.bool u0, .string ⟨u1.toArray⟩, .string ⟨u2.toArray⟩, .int .i64 u3, .string ⟨u4.toArray⟩, .string ⟨u5.toArray⟩] 27)
      generalize W2.alloc (.cells #[.bool u0, .string ⟨u1.toArray⟩, .string ⟨u2.toArray⟩, .int .i64 u3, .string ⟨u4.toArray⟩, .string ⟨u5.toArray⟩] 27) = X2 at BA BB Q ⊢
      generalize W2.heap.size = nBB at *
      (with_reducible refine Calls.mono (HPC.out _ (Env.reach HE.out Q)) ?_)
      rintro e W3 ⟨rfl, hr⟩
      replace BA := BA.reach hr
      replace BB := BB.reach hr
      replace Q := Reach.trans Q hr
      clear hr
      obtain ⟨x0_0, x0_1, x0_2, x0_3, x0_4, x0_5⟩ := BA.six
      have xl0 := BA.lt
      obtain ⟨x1_0, x1_1, x1_2, x1_3, x1_4, x1_5⟩ := BB.six
      have xl1 := BB.lt
      go_wp2_with fail
      clear x0_0 x0_1 x0_2 x0_3 x0_4 x0_5 xl0 x1_0 x1_1 x1_2 x1_3 x1_4 x1_5 xl1
      have BC : Blk (W3.alloc (.cells #[.bool u0, .string ⟨u1.toArray⟩, .string ⟨u2.toArray⟩, .int .i64 u3, .string ⟨u4.toArray⟩, .string ⟨u5.toArray⟩] 27)) (W3.heap.size) #[.bool u0, .string ⟨u1.toArray⟩, .string ⟨u2.toArray⟩, .int .i64 u3, .string ⟨u4.toArray⟩, .string ⟨u5.toArray⟩] 27 := by have h := Blk.new W3 #[.bool u0, .string ⟨u1.toArray⟩, .string ⟨u2.toArray⟩, .int .i64 u3, .string ⟨u4.toArray⟩, .string ⟨u5.toArray⟩] 27; exact h
      replace BA := BA.reach (Reach.alloc (Reach.refl _) (.cells #[.bool u0, .string ⟨u1.toArray⟩, .string ⟨u2.toArray⟩, .int .i64 u3, .string ⟨u4.toArray⟩, .string ⟨u5.toArray⟩] 27))
      replace BB := BB.reach (Reach.alloc (Reach.refl _) (.cells #[.bool u0, .string ⟨u1.toArray⟩, .string ⟨u2.toArray⟩, .int .i64 u3, .string ⟨u4.toArray⟩, .string ⟨u5.toArray⟩] 27))
      replace Q := Reach.alloc Q (.cells #[.bool u0, .string ⟨u1.toArray⟩, .string ⟨u2.toArray⟩, .int .i64 u3, .string ⟨u4.toArray⟩, .string ⟨u5.toArray⟩] 27)
      generalize W3.alloc (.cells #[.bool u0, .string ⟨u1.toArray⟩, .string ⟨u2.toArray⟩, .int .i64 u3, .string ⟨u4.toArray⟩, .string ⟨u5.toArray⟩] 27) = X3 at BA BB BC Q ⊢
      generalize W3.heap.size = nBC at *
      obtain ⟨x0_0, x0_1, x0_2, x0_3, x0_4, x0_5⟩ := BA.six
      have xl0 := BA.lt
      obtain ⟨x1_0, x1_1, x1_2, x1_3, x1_4, x1_5⟩ := BB.six
      have xl1 := BB.lt
      obtain ⟨x2_0, x2_1, x2_2, x2_3, x2_4, x2_5⟩ := BC.six
      have xl2 := BC.lt
      clear BA BB BC
      go_wp2_with (first | (go_at_call 7; (with_reducible refine Calls.mono (parses_calls _ (Env.reach HE.out (by (repeat (first | (with_reducible assumption) | (with_reducible exact Reach.refl _) | (with_reducible refine Reach.alloc ?_ _) | (with_reducible refine Reach.drew ?_) | (with_reducible refine Reach.drewN ?_ _) | (with_reducible refine Reach.grow ?_ _ _) | (with_reducible refine Reach.setCell ?_ ?_ _) | (with_reducible refine Reach.trans ?_ (by with_reducible assumption)) | (show _ ≤ Addr.block _; first | (exact Nat.le_refl _) | (show (_ : Nat) ≤ _; omega)) | (simp; done) | (simp; omega)))))) ?_); rintro e w' ⟨rfl, hb⟩; obtain ⟨hc, hf, hz⟩ := Reach.facts hb) | (go_at_call 13; (with_reducible refine Calls.mono (HT.out _) ?_); rintro e w' ⟨rfl, hb⟩; obtain ⟨hc, hf, hz⟩ := Reach.facts hb) | (go_at_call 14; (with_reducible refine Calls.mono (HLA.out _) ?_); rintro e w' ⟨rfl, hb⟩; obtain ⟨hc, hf, hz⟩ := Reach.facts hb) | (go_at_call 14; (with_reducible refine Calls.mono (HLB.out _) ?_); rintro e w' ⟨rfl, hb⟩; obtain ⟨hc, hf, hz⟩ := Reach.facts hb) | ((with_reducible refine wp_region_quiet_below (by kernel_rfl) (by kernel_rfl) ?_); (repeat (any_goals (first | (go_big_quiet_step ((first | (go_at_call 7; with_reducible exact reg_reach (parses_calls _ (Env.reach HE.out (by (repeat (first | (with_reducible assumption) | (with_reducible exact Reach.refl _) | (with_reducible refine Reach.alloc ?_ _) | (with_reducible refine Reach.drew ?_) | (with_reducible refine Reach.drewN ?_ _) | (with_reducible refine Reach.grow ?_ _ _) | (with_reducible refine Reach.setCell ?_ ?_ _) | (with_reducible refine Reach.trans ?_ (by with_reducible assumption)) | (show _ ≤ Addr.block _; first | (exact Nat.le_refl _) | (show (_ : Nat) ≤ _; omega)) | (simp; done) | (simp; omega))))))) | (go_at_call 13; with_reducible exact reg_reach (HT.out _)) | (go_at_call 14; with_reducible exact reg_reach (HLA.out _)) | (go_at_call 14; with_reducible exact reg_reach (HLB.out _))))) | (quiet_step ((first | (go_at_call 7; with_reducible exact reg_reach (parses_calls _ (Env.reach HE.out (by (repeat (first | (with_reducible assumption) | (with_reducible exact Reach.refl _) | (with_reducible refine Reach.alloc ?_ _) | (with_reducible refine Reach.drew ?_) | (with_reducible refine Reach.drewN ?_ _) | (with_reducible refine Reach.grow ?_ _ _) | (with_reducible refine Reach.setCell ?_ ?_ _) | (with_reducible refine Reach.trans ?_ (by with_reducible assumption)) | (show _ ≤ Addr.block _; first | (exact Nat.le_refl _) | (show (_ : Nat) ≤ _; omega)) | (simp; done) | (simp; omega))))))) | (go_at_call 13; with_reducible exact reg_reach (HT.out _)) | (go_at_call 14; with_reducible exact reg_reach (HLA.out _)) | (go_at_call 14; with_reducible exact reg_reach (HLB.out _))))) | (refine wpQuiet_step (fun K hK => ?_); go_simp; split <;> (refine hK _ ?_; clear hK K))))); all_goals (refine wpQuiet_nil ?_; intro _ hw'; obtain ⟨⟨dq, osq⟩, hw''⟩ := hw'; subst hw'')))
      go_ret
      exact ⟨rfl, by (repeat (first | (with_reducible assumption) | (with_reducible exact Reach.refl _) | (with_reducible refine Reach.alloc ?_ _) | (with_reducible refine Reach.drew ?_) | (with_reducible refine Reach.drewN ?_ _) | (with_reducible refine Reach.grow ?_ _ _) | (with_reducible refine Reach.setCell ?_ ?_ _) | (with_reducible refine Reach.trans ?_ (by with_reducible assumption)) | (show _ ≤ Addr.block _; first | (exact Nat.le_refl _) | (show (_ : Nat) ≤ _; omega)) | (simp; done) | (simp; omega)))⟩
    · have hpc := fun W (hE : Env W) => parse_calls (s ++ 35 :: m) W (by simp; omega) hE
      generalize parseU (s ++ 35 :: m) = v at hpc
      generalize parseE (s ++ 35 :: m) = g at hpc
      obtain ⟨v0, v1, v2, v3, v4, v5⟩ := v
      have htb : (trimL s == s) = false := by simpa using htr
      generalize trimL s = ts at *
      clear b1 b2 hu0 e2 hp hlh hck w1 w2 s1 s2 s3 s4 s5 s6 htr
      obtain ⟨u0, u1, u2, u3, u4, u5⟩ := u
      simp only at hpa hpb hpc hla hlb
      have HPA := Lib.hid hpa
      have HPB := Lib.hid hpb
      have HPC := Lib.hid hpc
      have HLA := Lib.hid hla
      have HLB := Lib.hid hlb
      have HT := Lib.hid hT
      clear hpa hpb hpc hla hlb hT
      go_enter Tryd.func4, Tryd.ntmps4
      have Q := Reach.refl w
      go_wp2_with fail
      (with_reducible refine Calls.mono (HPA.out _ (Env.reach HE.out Q)) ?_)
      rintro e W1 ⟨rfl, hr⟩
      replace Q := Reach.trans Q hr
      clear hr
      go_wp2_with fail
      have BA : Blk (W1.alloc (.cells #[.bool u0, .string ⟨u1.toArray⟩, .string ⟨u2.toArray⟩, .int .i64 u3, .string ⟨u4.toArray⟩, .string ⟨u5.toArray⟩] 27)) (W1.heap.size) #[.bool u0, .string ⟨u1.toArray⟩, .string ⟨u2.toArray⟩, .int .i64 u3, .string ⟨u4.toArray⟩, .string ⟨u5.toArray⟩] 27 := by have h := Blk.new W1 #[.bool u0, .string ⟨u1.toArray⟩, .string ⟨u2.toArray⟩, .int .i64 u3, .string ⟨u4.toArray⟩, .string ⟨u5.toArray⟩] 27; exact h
      replace Q := Reach.alloc Q (.cells #[.bool u0, .string ⟨u1.toArray⟩, .string ⟨u2.toArray⟩, .int .i64 u3, .string ⟨u4.toArray⟩, .string ⟨u5.toArray⟩] 27)
      generalize W1.alloc (.cells #[.bool u0, .string ⟨u1.toArray⟩, .string ⟨u2.toArray⟩, .int .i64 u3, .string ⟨u4.toArray⟩, .string ⟨u5.toArray⟩] 27) = X1 at BA Q ⊢
      generalize W1.heap.size = nBA at *
      (with_reducible refine Calls.mono (HPB.out _ (Env.reach HE.out Q)) ?_)
      rintro e W2 ⟨rfl, hr⟩
      replace BA := BA.reach hr
      replace Q := Reach.trans Q hr
      clear hr
      obtain ⟨x0_0, x0_1, x0_2, x0_3, x0_4, x0_5⟩ := BA.six
      have xl0 := BA.lt
      go_wp2_with fail
      clear x0_0 x0_1 x0_2 x0_3 x0_4 x0_5 xl0
      have BB : Blk (W2.alloc (.cells #[.bool u0, .string ⟨u1.toArray⟩, .string ⟨u2.toArray⟩, .int .i64 u3, .string ⟨u4.toArray⟩, .string ⟨u5.toArray⟩] 27)) (W2.heap.size) #[.bool u0, .string ⟨u1.toArray⟩, .string ⟨u2.toArray⟩, .int .i64 u3, .string ⟨u4.toArray⟩, .string ⟨u5.toArray⟩] 27 := by have h := Blk.new W2 #[.bool u0, .string ⟨u1.toArray⟩, .string ⟨u2.toArray⟩, .int .i64 u3, .string ⟨u4.toArray⟩, .string ⟨u5.toArray⟩] 27; exact h
      replace BA := BA.reach (Reach.alloc (Reach.refl _) (.cells #[.bool u0, .string ⟨u1.toArray⟩, .string ⟨u2.toArray⟩, .int .i64 u3, .string ⟨u4.toArray⟩, .string ⟨u5.toArray⟩] 27))
      replace Q := Reach.alloc Q (.cells #[.bool u0, .string ⟨u1.toArray⟩, .string ⟨u2.toArray⟩, .int .i64 u3, .string ⟨u4.toArray⟩, .string ⟨u5.toArray⟩] 27)
      generalize W2.alloc (.cells #[.bool u0, .string ⟨u1.toArray⟩, .string ⟨u2.toArray⟩, .int .i64 u3, .string ⟨u4.toArray⟩, .string ⟨u5.toArray⟩] 27) = X2 at BA BB Q ⊢
      generalize W2.heap.size = nBB at *
      (with_reducible refine Calls.mono (HPC.out _ (Env.reach HE.out Q)) ?_)
      rintro e W3 ⟨rfl, hr⟩
      replace BA := BA.reach hr
      replace BB := BB.reach hr
      replace Q := Reach.trans Q hr
      clear hr
      obtain ⟨x0_0, x0_1, x0_2, x0_3, x0_4, x0_5⟩ := BA.six
      have xl0 := BA.lt
      obtain ⟨x1_0, x1_1, x1_2, x1_3, x1_4, x1_5⟩ := BB.six
      have xl1 := BB.lt
      go_wp2_with fail
      clear x0_0 x0_1 x0_2 x0_3 x0_4 x0_5 xl0 x1_0 x1_1 x1_2 x1_3 x1_4 x1_5 xl1
      have BC : Blk (W3.alloc (.cells #[.bool v0, .string ⟨v1.toArray⟩, .string ⟨v2.toArray⟩, .int .i64 v3, .string ⟨v4.toArray⟩, .string ⟨v5.toArray⟩] 27)) (W3.heap.size) #[.bool v0, .string ⟨v1.toArray⟩, .string ⟨v2.toArray⟩, .int .i64 v3, .string ⟨v4.toArray⟩, .string ⟨v5.toArray⟩] 27 := by have h := Blk.new W3 #[.bool v0, .string ⟨v1.toArray⟩, .string ⟨v2.toArray⟩, .int .i64 v3, .string ⟨v4.toArray⟩, .string ⟨v5.toArray⟩] 27; exact h
      replace BA := BA.reach (Reach.alloc (Reach.refl _) (.cells #[.bool v0, .string ⟨v1.toArray⟩, .string ⟨v2.toArray⟩, .int .i64 v3, .string ⟨v4.toArray⟩, .string ⟨v5.toArray⟩] 27))
      replace BB := BB.reach (Reach.alloc (Reach.refl _) (.cells #[.bool v0, .string ⟨v1.toArray⟩, .string ⟨v2.toArray⟩, .int .i64 v3, .string ⟨v4.toArray⟩, .string ⟨v5.toArray⟩] 27))
      replace Q := Reach.alloc Q (.cells #[.bool v0, .string ⟨v1.toArray⟩, .string ⟨v2.toArray⟩, .int .i64 v3, .string ⟨v4.toArray⟩, .string ⟨v5.toArray⟩] 27)
      generalize W3.alloc (.cells #[.bool v0, .string ⟨v1.toArray⟩, .string ⟨v2.toArray⟩, .int .i64 v3, .string ⟨v4.toArray⟩, .string ⟨v5.toArray⟩] 27) = X3 at BA BB BC Q ⊢
      generalize W3.heap.size = nBC at *
      obtain ⟨x0_0, x0_1, x0_2, x0_3, x0_4, x0_5⟩ := BA.six
      have xl0 := BA.lt
      obtain ⟨x1_0, x1_1, x1_2, x1_3, x1_4, x1_5⟩ := BB.six
      have xl1 := BB.lt
      obtain ⟨x2_0, x2_1, x2_2, x2_3, x2_4, x2_5⟩ := BC.six
      have xl2 := BC.lt
      clear BA BB BC
      go_wp2_with (first | (go_at_call 7; (with_reducible refine Calls.mono (parses_calls _ (Env.reach HE.out (by (repeat (first | (with_reducible assumption) | (with_reducible exact Reach.refl _) | (with_reducible refine Reach.alloc ?_ _) | (with_reducible refine Reach.drew ?_) | (with_reducible refine Reach.drewN ?_ _) | (with_reducible refine Reach.grow ?_ _ _) | (with_reducible refine Reach.setCell ?_ ?_ _) | (with_reducible refine Reach.trans ?_ (by with_reducible assumption)) | (show _ ≤ Addr.block _; first | (exact Nat.le_refl _) | (show (_ : Nat) ≤ _; omega)) | (simp; done) | (simp; omega)))))) ?_); rintro e w' ⟨rfl, hb⟩; obtain ⟨hc, hf, hz⟩ := Reach.facts hb) | (go_at_call 13; (with_reducible refine Calls.mono (HT.out _) ?_); rintro e w' ⟨rfl, hb⟩; obtain ⟨hc, hf, hz⟩ := Reach.facts hb) | (go_at_call 14; (with_reducible refine Calls.mono (HLA.out _) ?_); rintro e w' ⟨rfl, hb⟩; obtain ⟨hc, hf, hz⟩ := Reach.facts hb) | (go_at_call 14; (with_reducible refine Calls.mono (HLB.out _) ?_); rintro e w' ⟨rfl, hb⟩; obtain ⟨hc, hf, hz⟩ := Reach.facts hb) | ((with_reducible refine wp_region_quiet_below (by kernel_rfl) (by kernel_rfl) ?_); (repeat (any_goals (first | (go_big_quiet_step ((first | (go_at_call 7; with_reducible exact reg_reach (parses_calls _ (Env.reach HE.out (by (repeat (first | (with_reducible assumption) | (with_reducible exact Reach.refl _) | (with_reducible refine Reach.alloc ?_ _) | (with_reducible refine Reach.drew ?_) | (with_reducible refine Reach.drewN ?_ _) | (with_reducible refine Reach.grow ?_ _ _) | (with_reducible refine Reach.setCell ?_ ?_ _) | (with_reducible refine Reach.trans ?_ (by with_reducible assumption)) | (show _ ≤ Addr.block _; first | (exact Nat.le_refl _) | (show (_ : Nat) ≤ _; omega)) | (simp; done) | (simp; omega))))))) | (go_at_call 13; with_reducible exact reg_reach (HT.out _)) | (go_at_call 14; with_reducible exact reg_reach (HLA.out _)) | (go_at_call 14; with_reducible exact reg_reach (HLB.out _))))) | (quiet_step ((first | (go_at_call 7; with_reducible exact reg_reach (parses_calls _ (Env.reach HE.out (by (repeat (first | (with_reducible assumption) | (with_reducible exact Reach.refl _) | (with_reducible refine Reach.alloc ?_ _) | (with_reducible refine Reach.drew ?_) | (with_reducible refine Reach.drewN ?_ _) | (with_reducible refine Reach.grow ?_ _ _) | (with_reducible refine Reach.setCell ?_ ?_ _) | (with_reducible refine Reach.trans ?_ (by with_reducible assumption)) | (show _ ≤ Addr.block _; first | (exact Nat.le_refl _) | (show (_ : Nat) ≤ _; omega)) | (simp; done) | (simp; omega))))))) | (go_at_call 13; with_reducible exact reg_reach (HT.out _)) | (go_at_call 14; with_reducible exact reg_reach (HLA.out _)) | (go_at_call 14; with_reducible exact reg_reach (HLB.out _))))) | (refine wpQuiet_step (fun K hK => ?_); go_simp; split <;> (refine hK _ ?_; clear hK K))))); all_goals (refine wpQuiet_nil ?_; intro _ hw'; obtain ⟨⟨dq, osq⟩, hw''⟩ := hw'; subst hw'')))
      go_ret
      exact ⟨rfl, by (repeat (first | (with_reducible assumption) | (with_reducible exact Reach.refl _) | (with_reducible refine Reach.alloc ?_ _) | (with_reducible refine Reach.drew ?_) | (with_reducible refine Reach.drewN ?_ _) | (with_reducible refine Reach.grow ?_ _ _) | (with_reducible refine Reach.setCell ?_ ?_ _) | (with_reducible refine Reach.trans ?_ (by with_reducible assumption)) | (show _ ≤ Addr.block _; first | (exact Nat.le_refl _) | (show (_ : Nat) ≤ _; omega)) | (simp; done) | (simp; omega)))⟩
end Go.Proofs.YtbpijmmhgdemlaaDoor
