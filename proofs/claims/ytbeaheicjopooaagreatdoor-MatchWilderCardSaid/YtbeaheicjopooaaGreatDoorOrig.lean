/- What package origin answers, for addresses whose texts have at most a million bytes each. -/
import Derived.Test.YtbeaheicjopooaaGreatDoorProg
import Derived.Test.YtbeaheicjopooaaGreatDoorPrint
import Derived.Test.YtbeaheicjopooaaGreatDoorPureG
import Derived.Test.YtbeaheicjopooaaGreatDoorBase
import Derived.Test.YtbeaheicjopooaaGreatDoorEnv
namespace Go.Proofs.YtbeaheicjopooaaGreatDoor
open Go.RowKit Go.Sort
attribute [local go_sem] get_mk mk_append mk_extract0 mk_extract_end mk_extract_cons empty_mk cell_grow frozen_grow size_grow

set_option maxHeartbeats 400000 in
theorem oport_calls (o : Bool) (a b : List UInt8) (n : Int) (c d : List UInt8) (w : World) :
    Calls Tryz.prog 78 #[.agg #[.bool o, .string ⟨a.toArray⟩, .string ⟨b.toArray⟩, .int .i64 n, .string ⟨c.toArray⟩, .string ⟨d.toArray⟩]] w fun e w' => e = .returned (.int .i64 (ownPort ⟨o, a, b, n, c, d⟩)) ∧ Reach w w' := by
  by_cases h0 : n = 0
  · subst h0
    go_enter Tryz.func78, Tryz.ntmps78
    go_wp2_with (first | (go_at_call 56; (with_reducible refine Calls.mono (default_calls _ _) ?_); rintro e w' ⟨rfl, rfl⟩) | ((with_reducible refine wp_region_quiet_below (by kernel_rfl) (by kernel_rfl) ?_); (repeat (any_goals (first | (go_big_quiet_step ((first | (go_at_call 56; with_reducible exact reg_pure (default_calls _ _))))) | (quiet_step ((first | (go_at_call 56; with_reducible exact reg_pure (default_calls _ _))))) | (refine wpQuiet_step (fun K hK => ?_); go_simp; split <;> (refine hK _ ?_; clear hK K))))); all_goals (refine wpQuiet_nil ?_; intro _ hw'; obtain ⟨⟨dq, osq⟩, hw''⟩ := hw'; subst hw'')))
    go_ret
    exact ⟨ret_int (by simp [ownPort]), by (repeat (first | (with_reducible assumption) | (with_reducible exact Reach.refl _) | (with_reducible refine Reach.alloc ?_ _) | (with_reducible refine Reach.drew ?_) | (with_reducible refine Reach.drewN ?_ _) | (with_reducible refine Reach.grow ?_ _ _) | (with_reducible refine Reach.setCell ?_ ?_ _) | (with_reducible refine Reach.trans ?_ (by with_reducible assumption)) | (show _ ≤ Addr.block _; first | (exact Nat.le_refl _) | (show (_ : Nat) ≤ _; omega)) | (simp; done) | (simp; omega)))⟩
  · have hb0 : (n != 0) = true := by simp [h0]
    go_enter Tryz.func78, Tryz.ntmps78
    go_wp2_with (first | (go_at_call 56; (with_reducible refine Calls.mono (default_calls _ _) ?_); rintro e w' ⟨rfl, rfl⟩) | ((with_reducible refine wp_region_quiet_below (by kernel_rfl) (by kernel_rfl) ?_); (repeat (any_goals (first | (go_big_quiet_step ((first | (go_at_call 56; with_reducible exact reg_pure (default_calls _ _))))) | (quiet_step ((first | (go_at_call 56; with_reducible exact reg_pure (default_calls _ _))))) | (refine wpQuiet_step (fun K hK => ?_); go_simp; split <;> (refine hK _ ?_; clear hK K))))); all_goals (refine wpQuiet_nil ?_; intro _ hw'; obtain ⟨⟨dq, osq⟩, hw''⟩ := hw'; subst hw'')))
    go_ret
    exact ⟨ret_int (by simp [ownPort, h0]), by (repeat (first | (with_reducible assumption) | (with_reducible exact Reach.refl _) | (with_reducible refine Reach.alloc ?_ _) | (with_reducible refine Reach.drew ?_) | (with_reducible refine Reach.drewN ?_ _) | (with_reducible refine Reach.grow ?_ _ _) | (with_reducible refine Reach.setCell ?_ ?_ _) | (with_reducible refine Reach.trans ?_ (by with_reducible assumption)) | (show _ ≤ Addr.block _; first | (exact Nat.le_refl _) | (show (_ : Nat) ≤ _; omega)) | (simp; done) | (simp; omega)))⟩
/-- An origin as a value. -/
def orgV (x : Org) : Value := .agg #[.bool x.opq, .string ⟨x.sch.toArray⟩, .string ⟨x.host.toArray⟩, .int .i64 x.port]
set_option maxRecDepth 100000 in
set_option maxHeartbeats 1000000 in
theorem of_calls (o : Bool) (a b : List UInt8) (n : Int) (c d : List UInt8) (w : World) (h1 : -9223372036854775808 ≤ n) (h2 : n ≤ 9223372036854775807)
    (ha : a.length ≤ 1000000) (hb : b.length ≤ 1000000) (hc : c.length ≤ 1000000) (hd : d.length ≤ 1000000) (hE : Env w) :
    Calls Tryz.prog 31 #[.agg #[.bool o, .string ⟨a.toArray⟩, .string ⟨b.toArray⟩, .int .i64 n, .string ⟨c.toArray⟩, .string ⟨d.toArray⟩]] w fun e w' => e = .returned (orgV (orgOf ⟨o, a, b, n, c, d⟩)) ∧ Reach w w' := by
  have hx := fun W (hE : Env W) => check_calls o a b n c d W h1 h2 ha hb hc hd hE
  have HE := Lib.hid hE
  clear hE
  cases hck : checkB ⟨o, a, b, n, c, d⟩
  · have ho : orgOf ⟨o, a, b, n, c, d⟩ = noOrg := by unfold orgOf orgB; rw [hck]; rfl
    rw [ho]
    have e1 : checkE ⟨o, a, b, n, c, d⟩ = 50 := by rw [checkE, hck]; rfl
    simp only [e1] at hx
    have HX := Lib.hid hx
    clear hx e1 hck ho
    go_enter Tryz.func31, Tryz.ntmps31
    go_wp2_with fail
    have Q : Reach w _ := Reach.alloc (Reach.alloc (Reach.refl w) (.cells #[.bool o, .string ⟨a.toArray⟩, .string ⟨b.toArray⟩, .int .i64 n, .string ⟨c.toArray⟩, .string ⟨d.toArray⟩] 23)) (.cells #[.bool false, .string ⟨#[]⟩, .string ⟨#[]⟩, .int .i64 0] 45)
    have BR : Blk _ (w.heap.size + 1) _ _ := (World.size_alloc w (.cells #[.bool o, .string ⟨a.toArray⟩, .string ⟨b.toArray⟩, .int .i64 n, .string ⟨c.toArray⟩, .string ⟨d.toArray⟩] 23)) ▸ Blk.new (w.alloc (.cells #[.bool o, .string ⟨a.toArray⟩, .string ⟨b.toArray⟩, .int .i64 n, .string ⟨c.toArray⟩, .string ⟨d.toArray⟩] 23)) #[.bool false, .string ⟨#[]⟩, .string ⟨#[]⟩, .int .i64 0] 45
    refine Calls.mono (HX.out _ (Env.reach HE.out Q)) ?_
    rintro e W1 ⟨rfl, hr⟩
    replace BR := BR.reach hr
    replace Q := Reach.trans Q hr
    clear hr
    obtain ⟨⟨x0_0, x0_1, x0_2, x0_3⟩, y0_0, y0_1, y0_2, y0_3⟩ := BR.fourf
    have xl0 := BR.lt
    go_wp2_with fail
    clear x0_0 x0_1 x0_2 x0_3 y0_0 y0_1 y0_2 y0_3 xl0
    have B1 := (((BR.put 0 (.bool true)).put 1 (.string ⟨#[]⟩)).put 2 (.string ⟨#[]⟩)).put 3 (.int .i64 0)
    obtain ⟨r0, r1, r2, r3⟩ := B1.four
    refine bodyPost_ret (v := orgV noOrg) (by simp [results, Tryz.results31, go_sem, orgV, noOrg, r0, r1, r2, r3]) rfl ⟨rfl, ?_⟩
    exact Reach.setCell (Reach.setCell (Reach.setCell (Reach.setCell Q (by simp) _) (by simp) _) (by simp) _) (by simp) _
  · have e1 : checkE ⟨o, a, b, n, c, d⟩ = 0 := by rw [checkE, hck]; rfl
    simp only [e1] at hx
    have HX := Lib.hid hx
    clear hx e1
    cases o
    · have ho : orgOf ⟨false, a, b, n, c, d⟩ = ⟨false, a, b, ownPort ⟨false, a, b, n, c, d⟩⟩ := by unfold orgOf orgB; rw [hck]; rfl
      rw [ho]
      clear hck ho
      go_enter Tryz.func31, Tryz.ntmps31
      go_wp2_with fail
      have Q : Reach w _ := Reach.alloc (Reach.alloc (Reach.refl w) (.cells #[.bool false, .string ⟨a.toArray⟩, .string ⟨b.toArray⟩, .int .i64 n, .string ⟨c.toArray⟩, .string ⟨d.toArray⟩] 23)) (.cells #[.bool false, .string ⟨#[]⟩, .string ⟨#[]⟩, .int .i64 0] 45)
      have BA := Blk.reach (Blk.new w #[.bool false, .string ⟨a.toArray⟩, .string ⟨b.toArray⟩, .int .i64 n, .string ⟨c.toArray⟩, .string ⟨d.toArray⟩] 23) (Reach.alloc (Reach.refl _) (.cells #[.bool false, .string ⟨#[]⟩, .string ⟨#[]⟩, .int .i64 0] 45))
      have BR : Blk _ (w.heap.size + 1) _ _ := (World.size_alloc w (.cells #[.bool false, .string ⟨a.toArray⟩, .string ⟨b.toArray⟩, .int .i64 n, .string ⟨c.toArray⟩, .string ⟨d.toArray⟩] 23)) ▸ Blk.new (w.alloc (.cells #[.bool false, .string ⟨a.toArray⟩, .string ⟨b.toArray⟩, .int .i64 n, .string ⟨c.toArray⟩, .string ⟨d.toArray⟩] 23)) #[.bool false, .string ⟨#[]⟩, .string ⟨#[]⟩, .int .i64 0] 45
      refine Calls.mono (HX.out _ (Env.reach HE.out Q)) ?_
      rintro e W1 ⟨rfl, hr⟩
      replace BA := BA.reach hr
      replace BR := BR.reach hr
      replace Q := Reach.trans Q hr
      clear hr
      obtain ⟨x0, x1, x2, x3, x4, x5⟩ := BA.six
      have xl := BA.lt
      obtain ⟨⟨z0, z1, z2, z3⟩, f0, f1, f2, f3⟩ := BR.fourf
      have zl := BR.lt
      go_wp2_with fail
      (with_reducible refine wp_region_tail 8 (by kernel_rfl) (by kernel_rfl) ?_)
      simp only [List.take_succ_cons, List.take_zero, List.drop_succ_cons, List.drop_zero]
      (repeat (any_goals (first | (go_big_quiet_step ((first | (go_at_call 78; with_reducible exact reg_reach (oport_calls _ _ _ _ _ _ _))))) | (quiet_step ((first | (go_at_call 78; with_reducible exact reg_reach (oport_calls _ _ _ _ _ _ _))))) | (refine wpQuiet_step (fun K hK => ?_); go_simp; split <;> (refine hK _ ?_; clear hK K)))))
      all_goals (refine wpQuiet_nil ?_; intro _ hw'; obtain ⟨⟨dq, osq⟩, hw''⟩ := hw'; subst hw'')
      have BA2 := BA.reach (Reach.grow (Reach.refl W1) dq osq)
      have BR2 := BR.reach (Reach.grow (Reach.refl W1) dq osq)
      have Q2 := Reach.grow Q dq osq
      clear x0 x1 x2 x3 x4 x5 z0 z1 z2 z3 f0 f1 f2 f3 zl xl BA BR Q
      generalize grow (redrawn W1 dq) osq = W2 at BA2 BR2 Q2 ⊢
      obtain ⟨⟨x0_0, x0_1, x0_2, x0_3⟩, y0_0, y0_1, y0_2, y0_3⟩ := BR2.fourf
      have xl0 := BR2.lt
      go_wp2_with fail
      clear x0_0 x0_1 x0_2 x0_3 y0_0 y0_1 y0_2 y0_3 xl0
      have B1 := (((BR2.put 0 (.bool false)).put 1 (.string ⟨a.toArray⟩)).put 2 (.string ⟨b.toArray⟩)).put 3 (.int .i64 (ownPort ⟨false, a, b, n, c, d⟩))
      obtain ⟨r0, r1, r2, r3⟩ := B1.four
      refine bodyPost_ret (v := orgV ⟨false, a, b, ownPort ⟨false, a, b, n, c, d⟩⟩) (by simp [results, Tryz.results31, go_sem, orgV, r0, r1, r2, r3]) rfl ⟨rfl, ?_⟩
      exact Reach.setCell (Reach.setCell (Reach.setCell (Reach.setCell Q2 (by simp) _) (by simp) _) (by simp) _) (by simp) _
    · have ho : orgOf ⟨true, a, b, n, c, d⟩ = noOrg := by unfold orgOf orgB; rw [hck]; rfl
      rw [ho]
      clear hck ho
      go_enter Tryz.func31, Tryz.ntmps31
      go_wp2_with fail
      have Q : Reach w _ := Reach.alloc (Reach.alloc (Reach.refl w) (.cells #[.bool true, .string ⟨a.toArray⟩, .string ⟨b.toArray⟩, .int .i64 n, .string ⟨c.toArray⟩, .string ⟨d.toArray⟩] 23)) (.cells #[.bool false, .string ⟨#[]⟩, .string ⟨#[]⟩, .int .i64 0] 45)
      have BA := Blk.reach (Blk.new w #[.bool true, .string ⟨a.toArray⟩, .string ⟨b.toArray⟩, .int .i64 n, .string ⟨c.toArray⟩, .string ⟨d.toArray⟩] 23) (Reach.alloc (Reach.refl _) (.cells #[.bool false, .string ⟨#[]⟩, .string ⟨#[]⟩, .int .i64 0] 45))
      have BR : Blk _ (w.heap.size + 1) _ _ := (World.size_alloc w (.cells #[.bool true, .string ⟨a.toArray⟩, .string ⟨b.toArray⟩, .int .i64 n, .string ⟨c.toArray⟩, .string ⟨d.toArray⟩] 23)) ▸ Blk.new (w.alloc (.cells #[.bool true, .string ⟨a.toArray⟩, .string ⟨b.toArray⟩, .int .i64 n, .string ⟨c.toArray⟩, .string ⟨d.toArray⟩] 23)) #[.bool false, .string ⟨#[]⟩, .string ⟨#[]⟩, .int .i64 0] 45
      refine Calls.mono (HX.out _ (Env.reach HE.out Q)) ?_
      rintro e W1 ⟨rfl, hr⟩
      replace BA := BA.reach hr
      replace BR := BR.reach hr
      replace Q := Reach.trans Q hr
      clear hr
      obtain ⟨x0_0, x0_1, x0_2, x0_3, x0_4, x0_5⟩ := BA.six
      have xl0 := BA.lt
      obtain ⟨⟨x1_0, x1_1, x1_2, x1_3⟩, y1_0, y1_1, y1_2, y1_3⟩ := BR.fourf
      have xl1 := BR.lt
      go_wp2_with fail
      clear x0_0 x0_1 x0_2 x0_3 x0_4 x0_5 xl0 x1_0 x1_1 x1_2 x1_3 y1_0 y1_1 y1_2 y1_3 xl1
      have B1 := (((BR.put 0 (.bool true)).put 1 (.string ⟨#[]⟩)).put 2 (.string ⟨#[]⟩)).put 3 (.int .i64 0)
      obtain ⟨r0, r1, r2, r3⟩ := B1.four
      refine bodyPost_ret (v := orgV noOrg) (by simp [results, Tryz.results31, go_sem, orgV, noOrg, r0, r1, r2, r3]) rfl ⟨rfl, ?_⟩
      exact Reach.setCell (Reach.setCell (Reach.setCell (Reach.setCell Q (by simp) _) (by simp) _) (by simp) _) (by simp) _
set_option maxRecDepth 100000 in
set_option maxHeartbeats 1000000 in
theorem osame_calls (x y : Org) (w : World) : Calls Tryz.prog 30 #[orgV x, orgV y] w fun e w' => e = .returned (.bool (orgSame x y)) ∧ Reach w w' := by
  obtain ⟨x0, x1, x2, x3⟩ := x
  obtain ⟨y0, y1, y2, y3⟩ := y
  unfold orgV
  go_enter Tryz.func30, Tryz.ntmps30
  go_wp2_with (first | ((with_reducible refine wp_region_quiet_below (by kernel_rfl) (by kernel_rfl) ?_); (repeat (any_goals (first | (go_big_quiet_step (fail)) | (quiet_step (fail)) | (refine wpQuiet_step (fun K hK => ?_); go_simp; split <;> (refine hK _ ?_; clear hK K))))); all_goals (refine wpQuiet_nil ?_; intro _ hw'; obtain ⟨⟨dq, osq⟩, hw''⟩ := hw'; subst hw'')))
  all_goals (go_ret; exact ⟨ret_bool (by simp_all [orgSame, orgEq]), by (repeat (first | (with_reducible assumption) | (with_reducible exact Reach.refl _) | (with_reducible refine Reach.alloc ?_ _) | (with_reducible refine Reach.drew ?_) | (with_reducible refine Reach.drewN ?_ _) | (with_reducible refine Reach.grow ?_ _ _) | (with_reducible refine Reach.setCell ?_ ?_ _) | (with_reducible refine Reach.trans ?_ (by with_reducible assumption)) | (show _ ≤ Addr.block _; first | (exact Nat.le_refl _) | (show (_ : Nat) ≤ _; omega)) | (simp; done) | (simp; omega)))⟩)
end Go.Proofs.YtbeaheicjopooaaGreatDoor
