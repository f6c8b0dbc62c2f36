/- What the reference's Print, ranked and Parse answer; texts of at most 100000 bytes. -/
import Derived.Test.YtbeaheicjopooaaGreatDoorProg
import Derived.Test.YtbeaheicjopooaaGreatDoorRight
import Derived.Test.YtbeaheicjopooaaGreatDoorRefB
import Derived.Test.YtbeaheicjopooaaGreatDoorRefC
import Derived.Test.YtbeaheicjopooaaGreatDoorRefE
import Derived.Test.YtbeaheicjopooaaGreatDoorPureG
import Derived.Test.YtbeaheicjopooaaGreatDoorBase
namespace Go.Proofs.YtbeaheicjopooaaGreatDoor
open Go.RowKit Go.Sort
attribute [local go_sem] get_mk mk_append mk_extract0 mk_extract_end mk_extract_cons empty_mk cell_grow frozen_grow size_grow
/-- What the reference reads behind a ranked scheme's colon. -/
def rrankedL (sch rest : List UInt8) : URL :=
  if Lib.hasPrefix rest [47, 47] then
    ⟨false, sch, lowerL (frontL (frontL (rest.drop 2) [47, 63]) [58]),
      (let p := if restL (frontL (rest.drop 2) [47, 63]) [58] = [] then 0 else rportL ((restL (frontL (rest.drop 2) [47, 63]) [58]).drop 1)
       if p = defPort sch then 0 else p),
      cleanL (if frontL (restL (rest.drop 2) [47, 63]) [63] = [] then [47] else frontL (restL (rest.drop 2) [47, 63]) [63]),
      restL (restL (rest.drop 2) [47, 63]) [63]⟩
  else ⟨false, sch, [], 0, [], []⟩
/-- An address' value. -/
def urlA (u : URL) : Value := .agg #[.bool u.opq, .string ⟨u.sch.toArray⟩, .string ⟨u.host.toArray⟩, .int .i64 u.port, .string ⟨u.path.toArray⟩, .string ⟨u.query.toArray⟩]
set_option maxRecDepth 100000 in
set_option maxHeartbeats 4000000 in
theorem rranked_calls (sch rest : List UInt8) (w : World) (_h1 : sch.length ≤ 100000) (h2 : rest.length ≤ 100000) :
    Calls Tryz.prog 85 #[.string ⟨sch.toArray⟩, .string ⟨rest.toArray⟩] w fun e w' => e = .returned (urlA (rrankedL sch rest)) ∧ Reach w w' := by
  cases hp : Lib.hasPrefix rest [47, 47]
  · have hr : rrankedL sch rest = ⟨false, sch, [], 0, [], []⟩ := by unfold rrankedL; rw [hp]; rfl
    rw [hr]
    unfold urlA
    have two : ∀ (W : World), Reach w W → Reach w W := fun W h => h
    clear two
    rcases rest with _ | ⟨x, _ | ⟨y, rest⟩⟩
    · clear hr hp
      go_enter Tryz.func85, Tryz.ntmps85
      go_wp2_with (first | ((with_reducible refine wp_region_quiet_below (by kernel_rfl) (by kernel_rfl) ?_); (repeat (any_goals (first | (go_big_quiet_step (fail)) | (quiet_step (fail)) | (refine wpQuiet_step (fun K hK => ?_); go_simp; split <;> (refine hK _ ?_; clear hK K))))); all_goals (refine wpQuiet_nil ?_; intro _ hw'; obtain ⟨⟨dq, osq⟩, hw''⟩ := hw'; subst hw'')))
      exact bodyPost_ret (v := .agg #[.bool false, .string ⟨sch.toArray⟩, .string ⟨#[]⟩, .int .i64 0, .string ⟨#[]⟩, .string ⟨#[]⟩]) (by simp [results, Tryz.results85, go_sem]) rfl ⟨rfl, by (repeat (first | (with_reducible assumption) | (with_reducible exact Reach.refl _) | (with_reducible refine Reach.alloc ?_ _) | (with_reducible refine Reach.drew ?_) | (with_reducible refine Reach.drewN ?_ _) | (with_reducible refine Reach.grow ?_ _ _) | (with_reducible refine Reach.setCell ?_ ?_ _) | (with_reducible refine Reach.trans ?_ (by with_reducible assumption)) | (show _ ≤ Addr.block _; first | (exact Nat.le_refl _) | (show (_ : Nat) ≤ _; omega)) | (simp; done) | (simp; omega)))⟩
    · clear hr hp
      go_enter Tryz.func85, Tryz.ntmps85
      go_wp2_with (first | ((with_reducible refine wp_region_quiet_below (by kernel_rfl) (by kernel_rfl) ?_); (repeat (any_goals (first | (go_big_quiet_step (fail)) | (quiet_step (fail)) | (refine wpQuiet_step (fun K hK => ?_); go_simp; split <;> (refine hK _ ?_; clear hK K))))); all_goals (refine wpQuiet_nil ?_; intro _ hw'; obtain ⟨⟨dq, osq⟩, hw''⟩ := hw'; subst hw'')))
      exact bodyPost_ret (v := .agg #[.bool false, .string ⟨sch.toArray⟩, .string ⟨#[]⟩, .int .i64 0, .string ⟨#[]⟩, .string ⟨#[]⟩]) (by simp [results, Tryz.results85, go_sem]) rfl ⟨rfl, by (repeat (first | (with_reducible assumption) | (with_reducible exact Reach.refl _) | (with_reducible refine Reach.alloc ?_ _) | (with_reducible refine Reach.drew ?_) | (with_reducible refine Reach.drewN ?_ _) | (with_reducible refine Reach.grow ?_ _ _) | (with_reducible refine Reach.setCell ?_ ?_ _) | (with_reducible refine Reach.trans ?_ (by with_reducible assumption)) | (show _ ≤ Addr.block _; first | (exact Nat.le_refl _) | (show (_ : Nat) ≤ _; omega)) | (simp; done) | (simp; omega)))⟩
    · have hn : ([x, y] == [47, 47]) = false := by
        cases hxy : ([x, y] == [47, 47])
        · rfl
        · exfalso
          simp only [List.cons_beq_cons, Bool.and_eq_true, beq_iff_eq] at hxy
          obtain ⟨rfl, rfl, _⟩ := hxy
          simp [Lib.hasPrefix] at hp
      have hn2 : ([x, y] != [47, 47]) = true := by rw [bne, hn]; rfl
      clear hr hp
      go_enter Tryz.func85, Tryz.ntmps85
      go_wp2_with (first | ((with_reducible refine wp_region_quiet_below (by kernel_rfl) (by kernel_rfl) ?_); (repeat (any_goals (first | (go_big_quiet_step (fail)) | (quiet_step (fail)) | (refine wpQuiet_step (fun K hK => ?_); go_simp; split <;> (refine hK _ ?_; clear hK K))))); all_goals (refine wpQuiet_nil ?_; intro _ hw'; obtain ⟨⟨dq, osq⟩, hw''⟩ := hw'; subst hw'')))
      exact bodyPost_ret (v := .agg #[.bool false, .string ⟨sch.toArray⟩, .string ⟨#[]⟩, .int .i64 0, .string ⟨#[]⟩, .string ⟨#[]⟩]) (by simp [results, Tryz.results85, go_sem]) rfl ⟨rfl, by (repeat (first | (with_reducible assumption) | (with_reducible exact Reach.refl _) | (with_reducible refine Reach.alloc ?_ _) | (with_reducible refine Reach.drew ?_) | (with_reducible refine Reach.drewN ?_ _) | (with_reducible refine Reach.grow ?_ _ _) | (with_reducible refine Reach.setCell ?_ ?_ _) | (with_reducible refine Reach.trans ?_ (by with_reducible assumption)) | (show _ ≤ Addr.block _; first | (exact Nat.le_refl _) | (show (_ : Nat) ≤ _; omega)) | (simp; done) | (simp; omega)))⟩
  · obtain ⟨g1, g2⟩ : rest.take 2 = [47, 47] ∧ 2 ≤ rest.length := by
      rcases rest with _ | ⟨x, _ | ⟨y, rest⟩⟩
      · simp [Lib.hasPrefix] at hp
      · simp [Lib.hasPrefix] at hp
      · simp [Lib.hasPrefix] at hp
        exact ⟨by rw [← hp.1, ← hp.2]; rfl, by simp⟩
    have hr : rrankedL sch rest = ⟨false, sch, lowerL (frontL (frontL (rest.drop 2) [47, 63]) [58]),
      (let p := if restL (frontL (rest.drop 2) [47, 63]) [58] = [] then 0 else rportL ((restL (frontL (rest.drop 2) [47, 63]) [58]).drop 1)
       if p = defPort sch then 0 else p),
      cleanL (if frontL (restL (rest.drop 2) [47, 63]) [63] = [] then [47] else frontL (restL (rest.drop 2) [47, 63]) [63]), restL (restL (rest.drop 2) [47, 63]) [63]⟩ := by unfold rrankedL; rw [hp]; rfl
    rw [hr]
    have hdl : (rest.drop 2).length ≤ 100000 := by rw [List.length_drop]; omega
    generalize ht : rest.drop 2 = t at *
    have HT2 := Lib.hid ht
    clear ht
    clear hr hp
    have f1 := frontL_length t [47, 63]
    have f2 := restL_length t [47, 63]
    have c1 := fun W => rcut_calls t [47, 63] W (by omega) (by simp)
    generalize frontL t [47, 63] = fr at *
    generalize restL t [47, 63] = be at *
    have f3 := frontL_length fr [58]
    have f4 := restL_length fr [58]
    have c2 := fun W => rcut_calls fr [58] W (by omega) (by simp)
    generalize frontL fr [58] = hs at *
    generalize restL fr [58] = nu at *
    have f5 := frontL_length be [63]
    have f6 := restL_length be [63]
    have c3 := fun W => rcut_calls be [63] W (by omega) (by simp)
    generalize frontL be [63] = pa at *
    generalize restL be [63] = qu at *
    have c4 := fun W => rlower_calls hs W (by omega)
    generalize lowerL hs = lh at *
    have c6 := fun W => rclean_calls (if pa = [] then [47] else pa) W (by split; exact Nat.le_of_ble_eq_true rfl; omega)
    have H1 := Lib.hid c1
    have H2 := Lib.hid c2
    have H3 := Lib.hid c3
    have H4 := Lib.hid c4
    clear c1 c2 c3 c4 f1 f2 f3 f4 f5 f6
    cases nu with
    | nil =>
      have hpz : (let p : Int := if ([] : List UInt8) = [] then 0 else rportL (([] : List UInt8).drop 1); if p = defPort sch then 0 else p) = 0 := by simp
      rw [hpz]
      clear hpz
      unfold urlA
      simp only
      cases hd : ((0 : Int) == defPort sch)
      · skip
        go_enter Tryz.func85, Tryz.ntmps85
        have hd2 := HT2.out
        go_wp2_with fail
        clear hd2
        have BR : Blk (w.alloc (.cells #[.bool false, .string ⟨#[]⟩, .string ⟨#[]⟩, .int .i64 0, .string ⟨#[]⟩, .string ⟨#[]⟩] 23)) (w.heap.size) #[.bool false, .string ⟨#[]⟩, .string ⟨#[]⟩, .int .i64 0, .string ⟨#[]⟩, .string ⟨#[]⟩] 23 := by have h := Blk.new w #[.bool false, .string ⟨#[]⟩, .string ⟨#[]⟩, .int .i64 0, .string ⟨#[]⟩, .string ⟨#[]⟩] 23; exact h
        have BU : Blk ((w.alloc (.cells #[.bool false, .string ⟨#[]⟩, .string ⟨#[]⟩, .int .i64 0, .string ⟨#[]⟩, .string ⟨#[]⟩] 23)).alloc (.cells #[.bool false, .string ⟨sch.toArray⟩, .string ⟨#[]⟩, .int .i64 0, .string ⟨#[]⟩, .string ⟨#[]⟩] 23)) (w.heap.size + 1) #[.bool false, .string ⟨sch.toArray⟩, .string ⟨#[]⟩, .int .i64 0, .string ⟨#[]⟩, .string ⟨#[]⟩] 23 := by have h := Blk.new (w.alloc (.cells #[.bool false, .string ⟨#[]⟩, .string ⟨#[]⟩, .int .i64 0, .string ⟨#[]⟩, .string ⟨#[]⟩] 23)) #[.bool false, .string ⟨sch.toArray⟩, .string ⟨#[]⟩, .int .i64 0, .string ⟨#[]⟩, .string ⟨#[]⟩] 23; rw [World.size_alloc] at h; exact h
        replace BR := BR.reach (Reach.alloc (Reach.refl _) (.cells #[.bool false, .string ⟨sch.toArray⟩, .string ⟨#[]⟩, .int .i64 0, .string ⟨#[]⟩, .string ⟨#[]⟩] 23))
        have Q : Reach w _ := Reach.alloc (Reach.alloc (Reach.refl w) (.cells #[.bool false, .string ⟨#[]⟩, .string ⟨#[]⟩, .int .i64 0, .string ⟨#[]⟩, .string ⟨#[]⟩] 23)) (.cells #[.bool false, .string ⟨sch.toArray⟩, .string ⟨#[]⟩, .int .i64 0, .string ⟨#[]⟩, .string ⟨#[]⟩] 23)
        generalize (w.alloc (.cells #[.bool false, .string ⟨#[]⟩, .string ⟨#[]⟩, .int .i64 0, .string ⟨#[]⟩, .string ⟨#[]⟩] 23)).alloc (.cells #[.bool false, .string ⟨sch.toArray⟩, .string ⟨#[]⟩, .int .i64 0, .string ⟨#[]⟩, .string ⟨#[]⟩] 23) = W0 at BR BU Q ⊢
        (with_reducible refine Calls.mono (H1.out _) ?_)
        rintro e W1 ⟨rfl, hr⟩
        replace BR := BR.reach hr
        replace BU := BU.reach hr
        replace Q := Reach.trans Q hr
        clear hr
        obtain ⟨⟨x0_0, x0_1, x0_2, x0_3, x0_4, x0_5⟩, y0_0, y0_1, y0_2, y0_3, y0_4, y0_5⟩ := BR.sixf
        have xl0 := BR.lt
        obtain ⟨⟨x1_0, x1_1, x1_2, x1_3, x1_4, x1_5⟩, y1_0, y1_1, y1_2, y1_3, y1_4, y1_5⟩ := BU.sixf
        have xl1 := BU.lt
        go_wp2_with fail
        clear x0_0 x0_1 x0_2 x0_3 x0_4 x0_5 y0_0 y0_1 y0_2 y0_3 y0_4 y0_5 xl0 x1_0 x1_1 x1_2 x1_3 x1_4 x1_5 y1_0 y1_1 y1_2 y1_3 y1_4 y1_5 xl1
        (with_reducible refine Calls.mono (H2.out _) ?_)
        rintro e W2 ⟨rfl, hr⟩
        replace BR := BR.reach hr
        replace BU := BU.reach hr
        replace Q := Reach.trans Q hr
        clear hr
        obtain ⟨⟨x0_0, x0_1, x0_2, x0_3, x0_4, x0_5⟩, y0_0, y0_1, y0_2, y0_3, y0_4, y0_5⟩ := BR.sixf
        have xl0 := BR.lt
        obtain ⟨⟨x1_0, x1_1, x1_2, x1_3, x1_4, x1_5⟩, y1_0, y1_1, y1_2, y1_3, y1_4, y1_5⟩ := BU.sixf
        have xl1 := BU.lt
        go_wp2_with fail
        clear x0_0 x0_1 x0_2 x0_3 x0_4 x0_5 y0_0 y0_1 y0_2 y0_3 y0_4 y0_5 xl0 x1_0 x1_1 x1_2 x1_3 x1_4 x1_5 y1_0 y1_1 y1_2 y1_3 y1_4 y1_5 xl1
        (with_reducible refine Calls.mono (H4.out _) ?_)
        rintro e W3 ⟨rfl, hr⟩
        replace BR := BR.reach hr
        replace BU := BU.reach hr
        replace Q := Reach.trans Q hr
        clear hr
        obtain ⟨⟨x0_0, x0_1, x0_2, x0_3, x0_4, x0_5⟩, y0_0, y0_1, y0_2, y0_3, y0_4, y0_5⟩ := BR.sixf
        have xl0 := BR.lt
        obtain ⟨⟨x1_0, x1_1, x1_2, x1_3, x1_4, x1_5⟩, y1_0, y1_1, y1_2, y1_3, y1_4, y1_5⟩ := BU.sixf
        have xl1 := BU.lt
        go_wp2_with fail
        clear x0_0 x0_1 x0_2 x0_3 x0_4 x0_5 y0_0 y0_1 y0_2 y0_3 y0_4 y0_5 xl0 x1_0 x1_1 x1_2 x1_3 x1_4 x1_5 y1_0 y1_1 y1_2 y1_3 y1_4 y1_5 xl1
        replace BU := BU.put 2 (.string ⟨lh.toArray⟩)
        replace BR := BR.set ⟨w.heap.size + 1, 2, none⟩ (by first | (simp; done) | (simp; omega)) (.string ⟨lh.toArray⟩)
        replace Q := Reach.setCell (p := ⟨w.heap.size + 1, 2, none⟩) Q (by first | (simp; done) | (simp; omega)) (.string ⟨lh.toArray⟩)
        generalize W3.setCell ⟨w.heap.size + 1, 2, none⟩ (.string ⟨lh.toArray⟩) = W4 at BU BR Q ⊢
        obtain ⟨x0, x1, x2, x3, x4, x5⟩ := BU.six
        obtain ⟨⟨_, _, _, _, _, _⟩, y0, y1, y2, y3, y4, y5⟩ := BU.sixf
        have xl := BU.lt
        go_wp2_with (first | (go_at_call 58; (with_reducible refine Calls.mono (rdefault_calls _ _) ?_); rintro e w' ⟨rfl, rfl⟩) | ((with_reducible refine wp_region_quiet_below (by kernel_rfl) (by kernel_rfl) ?_); (repeat (any_goals (first | (go_big_quiet_step ((first | (go_at_call 58; with_reducible exact reg_pure (rdefault_calls _ _))))) | (quiet_step ((first | (go_at_call 58; with_reducible exact reg_pure (rdefault_calls _ _))))) | (refine wpQuiet_step (fun K hK => ?_); go_simp; split <;> (refine hK _ ?_; clear hK K))))); all_goals (refine wpQuiet_nil ?_; intro _ hw'; obtain ⟨⟨dq, osq⟩, hw''⟩ := hw'; subst hw'')))
        replace BU := BU.reach (Reach.grow (Reach.refl W4) dq osq)
        replace BR := BR.reach (Reach.grow (Reach.refl W4) dq osq)
        replace Q := Reach.grow Q dq osq
        clear x0 x1 x2 x3 x4 x5 xl y0 y1 y2 y3 y4 y5
        generalize grow (redrawn W4 dq) osq = W5 at BU BR Q ⊢
        (with_reducible refine Calls.mono (H3.out _) ?_)
        rintro e WC ⟨rfl, hr⟩
        replace BR := BR.reach hr
        replace BU := BU.reach hr
        replace Q := Reach.trans Q hr
        clear hr
        cases pa with
        | nil =>
          simp only [if_true] at c6 ⊢
          generalize hcl : cleanL [47] = cl at c6
          have HCL := Lib.hid hcl
          have H6 := Lib.hid c6
          clear c6 hcl
          obtain ⟨⟨x0_0, x0_1, x0_2, x0_3, x0_4, x0_5⟩, y0_0, y0_1, y0_2, y0_3, y0_4, y0_5⟩ := BR.sixf
          have xl0 := BR.lt
          obtain ⟨⟨x1_0, x1_1, x1_2, x1_3, x1_4, x1_5⟩, y1_0, y1_1, y1_2, y1_3, y1_4, y1_5⟩ := BU.sixf
          have xl1 := BU.lt
          go_wp2_with fail
          clear x0_0 x0_1 x0_2 x0_3 x0_4 x0_5 y0_0 y0_1 y0_2 y0_3 y0_4 y0_5 xl0 x1_0 x1_1 x1_2 x1_3 x1_4 x1_5 y1_0 y1_1 y1_2 y1_3 y1_4 y1_5 xl1
          (with_reducible refine Calls.mono (H6.out _) ?_)
          rintro e WL ⟨rfl, hr⟩
          replace BR := BR.reach hr
          replace BU := BU.reach hr
          replace Q := Reach.trans Q hr
          clear hr
          obtain ⟨⟨x0_0, x0_1, x0_2, x0_3, x0_4, x0_5⟩, y0_0, y0_1, y0_2, y0_3, y0_4, y0_5⟩ := BR.sixf
          have xl0 := BR.lt
          obtain ⟨⟨x1_0, x1_1, x1_2, x1_3, x1_4, x1_5⟩, y1_0, y1_1, y1_2, y1_3, y1_4, y1_5⟩ := BU.sixf
          have xl1 := BU.lt
          go_wp2_with fail
          clear x0_0 x0_1 x0_2 x0_3 x0_4 x0_5 y0_0 y0_1 y0_2 y0_3 y0_4 y0_5 xl0 x1_0 x1_1 x1_2 x1_3 x1_4 x1_5 y1_0 y1_1 y1_2 y1_3 y1_4 y1_5 xl1
          replace BR := (BR.set ⟨w.heap.size + 1, 4, none⟩ (by simp) (.string ⟨cl.toArray⟩)).set ⟨w.heap.size + 1, 5, none⟩ (by simp) (.string ⟨qu.toArray⟩)
          replace Q := Reach.setCell (p := ⟨w.heap.size + 1, 5, none⟩) (Reach.setCell (p := ⟨w.heap.size + 1, 4, none⟩) Q (by simp) (.string ⟨cl.toArray⟩)) (by simp) (.string ⟨qu.toArray⟩)
          have BR1 := ((((((BR.put 0 (.bool false)).put 1 (.string ⟨sch.toArray⟩)).put 2 (.string ⟨lh.toArray⟩)).put 3 (.int .i64 0)).put 4 (.string ⟨cl.toArray⟩)).put 5 (.string ⟨qu.toArray⟩))
          obtain ⟨r0, r1, r2, r3, r4, r5⟩ := BR1.six
          refine bodyPost_ret (v := .agg #[.bool false, .string ⟨sch.toArray⟩, .string ⟨lh.toArray⟩, .int .i64 0, .string ⟨cl.toArray⟩, .string ⟨qu.toArray⟩]) (by simp [results, Tryz.results85, go_sem, r0, r1, r2, r3, r4, r5]) rfl ⟨(by rw [HCL.out]), ?_⟩
          exact Reach.setCell (Reach.setCell (Reach.setCell (Reach.setCell (Reach.setCell (Reach.setCell Q (by simp) _) (by simp) _) (by simp) _) (by simp) _) (by simp) _) (by simp) _
        | cons x pa =>
          simp only [reduceCtorEq, if_false] at c6 ⊢
          generalize hcl : cleanL (x :: pa) = cl at c6
          have HCL := Lib.hid hcl
          have H6 := Lib.hid c6
          clear c6 hcl
          obtain ⟨⟨x0_0, x0_1, x0_2, x0_3, x0_4, x0_5⟩, y0_0, y0_1, y0_2, y0_3, y0_4, y0_5⟩ := BR.sixf
          have xl0 := BR.lt
          obtain ⟨⟨x1_0, x1_1, x1_2, x1_3, x1_4, x1_5⟩, y1_0, y1_1, y1_2, y1_3, y1_4, y1_5⟩ := BU.sixf
          have xl1 := BU.lt
          go_wp2_with fail
          clear x0_0 x0_1 x0_2 x0_3 x0_4 x0_5 y0_0 y0_1 y0_2 y0_3 y0_4 y0_5 xl0 x1_0 x1_1 x1_2 x1_3 x1_4 x1_5 y1_0 y1_1 y1_2 y1_3 y1_4 y1_5 xl1
          (with_reducible refine Calls.mono (H6.out _) ?_)
          rintro e WL ⟨rfl, hr⟩
          replace BR := BR.reach hr
          replace BU := BU.reach hr
          replace Q := Reach.trans Q hr
          clear hr
          obtain ⟨⟨x0_0, x0_1, x0_2, x0_3, x0_4, x0_5⟩, y0_0, y0_1, y0_2, y0_3, y0_4, y0_5⟩ := BR.sixf
          have xl0 := BR.lt
          obtain ⟨⟨x1_0, x1_1, x1_2, x1_3, x1_4, x1_5⟩, y1_0, y1_1, y1_2, y1_3, y1_4, y1_5⟩ := BU.sixf
          have xl1 := BU.lt
          go_wp2_with fail
          clear x0_0 x0_1 x0_2 x0_3 x0_4 x0_5 y0_0 y0_1 y0_2 y0_3 y0_4 y0_5 xl0 x1_0 x1_1 x1_2 x1_3 x1_4 x1_5 y1_0 y1_1 y1_2 y1_3 y1_4 y1_5 xl1
          replace BR := (BR.set ⟨w.heap.size + 1, 4, none⟩ (by simp) (.string ⟨cl.toArray⟩)).set ⟨w.heap.size + 1, 5, none⟩ (by simp) (.string ⟨qu.toArray⟩)
          replace Q := Reach.setCell (p := ⟨w.heap.size + 1, 5, none⟩) (Reach.setCell (p := ⟨w.heap.size + 1, 4, none⟩) Q (by simp) (.string ⟨cl.toArray⟩)) (by simp) (.string ⟨qu.toArray⟩)
          have BR1 := ((((((BR.put 0 (.bool false)).put 1 (.string ⟨sch.toArray⟩)).put 2 (.string ⟨lh.toArray⟩)).put 3 (.int .i64 0)).put 4 (.string ⟨cl.toArray⟩)).put 5 (.string ⟨qu.toArray⟩))
          obtain ⟨r0, r1, r2, r3, r4, r5⟩ := BR1.six
          refine bodyPost_ret (v := .agg #[.bool false, .string ⟨sch.toArray⟩, .string ⟨lh.toArray⟩, .int .i64 0, .string ⟨cl.toArray⟩, .string ⟨qu.toArray⟩]) (by simp [results, Tryz.results85, go_sem, r0, r1, r2, r3, r4, r5]) rfl ⟨(by rw [HCL.out]), ?_⟩
          exact Reach.setCell (Reach.setCell (Reach.setCell (Reach.setCell (Reach.setCell (Reach.setCell Q (by simp) _) (by simp) _) (by simp) _) (by simp) _) (by simp) _) (by simp) _
      · skip
        go_enter Tryz.func85, Tryz.ntmps85
        have hd2 := HT2.out
        go_wp2_with fail
        clear hd2
        have BR : Blk (w.alloc (.cells #[.bool false, .string ⟨#[]⟩, .string ⟨#[]⟩, .int .i64 0, .string ⟨#[]⟩, .string ⟨#[]⟩] 23)) (w.heap.size) #[.bool false, .string ⟨#[]⟩, .string ⟨#[]⟩, .int .i64 0, .string ⟨#[]⟩, .string ⟨#[]⟩] 23 := by have h := Blk.new w #[.bool false, .string ⟨#[]⟩, .string ⟨#[]⟩, .int .i64 0, .string ⟨#[]⟩, .string ⟨#[]⟩] 23; exact h
        have BU : Blk ((w.alloc (.cells #[.bool false, .string ⟨#[]⟩, .string ⟨#[]⟩, .int .i64 0, .string ⟨#[]⟩, .string ⟨#[]⟩] 23)).alloc (.cells #[.bool false, .string ⟨sch.toArray⟩, .string ⟨#[]⟩, .int .i64 0, .string ⟨#[]⟩, .string ⟨#[]⟩] 23)) (w.heap.size + 1) #[.bool false, .string ⟨sch.toArray⟩, .string ⟨#[]⟩, .int .i64 0, .string ⟨#[]⟩, .string ⟨#[]⟩] 23 := by have h := Blk.new (w.alloc (.cells #[.bool false, .string ⟨#[]⟩, .string ⟨#[]⟩, .int .i64 0, .string ⟨#[]⟩, .string ⟨#[]⟩] 23)) #[.bool false, .string ⟨sch.toArray⟩, .string ⟨#[]⟩, .int .i64 0, .string ⟨#[]⟩, .string ⟨#[]⟩] 23; rw [World.size_alloc] at h; exact h
        replace BR := BR.reach (Reach.alloc (Reach.refl _) (.cells #[.bool false, .string ⟨sch.toArray⟩, .string ⟨#[]⟩, .int .i64 0, .string ⟨#[]⟩, .string ⟨#[]⟩] 23))
        have Q : Reach w _ := Reach.alloc (Reach.alloc (Reach.refl w) (.cells #[.bool false, .string ⟨#[]⟩, .string ⟨#[]⟩, .int .i64 0, .string ⟨#[]⟩, .string ⟨#[]⟩] 23)) (.cells #[.bool false, .string ⟨sch.toArray⟩, .string ⟨#[]⟩, .int .i64 0, .string ⟨#[]⟩, .string ⟨#[]⟩] 23)
        generalize (w.alloc (.cells #[.bool false, .string ⟨#[]⟩, .string ⟨#[]⟩, .int .i64 0, .string ⟨#[]⟩, .string ⟨#[]⟩] 23)).alloc (.cells #[.bool false, .string ⟨sch.toArray⟩, .string ⟨#[]⟩, .int .i64 0, .string ⟨#[]⟩, .string ⟨#[]⟩] 23) = W0 at BR BU Q ⊢
        (with_reducible refine Calls.mono (H1.out _) ?_)
        rintro e W1 ⟨rfl, hr⟩
        replace BR := BR.reach hr
        replace BU := BU.reach hr
        replace Q := Reach.trans Q hr
        clear hr
        obtain ⟨⟨x0_0, x0_1, x0_2, x0_3, x0_4, x0_5⟩, y0_0, y0_1, y0_2, y0_3, y0_4, y0_5⟩ := BR.sixf
        have xl0 := BR.lt
        obtain ⟨⟨x1_0, x1_1, x1_2, x1_3, x1_4, x1_5⟩, y1_0, y1_1, y1_2, y1_3, y1_4, y1_5⟩ := BU.sixf
        have xl1 := BU.lt
        go_wp2_with fail
        clear x0_0 x0_1 x0_2 x0_3 x0_4 x0_5 y0_0 y0_1 y0_2 y0_3 y0_4 y0_5 xl0 x1_0 x1_1 x1_2 x1_3 x1_4 x1_5 y1_0 y1_1 y1_2 y1_3 y1_4 y1_5 xl1
        (with_reducible refine Calls.mono (H2.out _) ?_)
        rintro e W2 ⟨rfl, hr⟩
        replace BR := BR.reach hr
        replace BU := BU.reach hr
        replace Q := Reach.trans Q hr
        clear hr
        obtain ⟨⟨x0_0, x0_1, x0_2, x0_3, x0_4, x0_5⟩, y0_0, y0_1, y0_2, y0_3, y0_4, y0_5⟩ := BR.sixf
        have xl0 := BR.lt
        obtain ⟨⟨x1_0, x1_1, x1_2, x1_3, x1_4, x1_5⟩, y1_0, y1_1, y1_2, y1_3, y1_4, y1_5⟩ := BU.sixf
        have xl1 := BU.lt
        go_wp2_with fail
        clear x0_0 x0_1 x0_2 x0_3 x0_4 x0_5 y0_0 y0_1 y0_2 y0_3 y0_4 y0_5 xl0 x1_0 x1_1 x1_2 x1_3 x1_4 x1_5 y1_0 y1_1 y1_2 y1_3 y1_4 y1_5 xl1
        (with_reducible refine Calls.mono (H4.out _) ?_)
        rintro e W3 ⟨rfl, hr⟩
        replace BR := BR.reach hr
        replace BU := BU.reach hr
        replace Q := Reach.trans Q hr
        clear hr
        obtain ⟨⟨x0_0, x0_1, x0_2, x0_3, x0_4, x0_5⟩, y0_0, y0_1, y0_2, y0_3, y0_4, y0_5⟩ := BR.sixf
        have xl0 := BR.lt
        obtain ⟨⟨x1_0, x1_1, x1_2, x1_3, x1_4, x1_5⟩, y1_0, y1_1, y1_2, y1_3, y1_4, y1_5⟩ := BU.sixf
        have xl1 := BU.lt
        go_wp2_with fail
        clear x0_0 x0_1 x0_2 x0_3 x0_4 x0_5 y0_0 y0_1 y0_2 y0_3 y0_4 y0_5 xl0 x1_0 x1_1 x1_2 x1_3 x1_4 x1_5 y1_0 y1_1 y1_2 y1_3 y1_4 y1_5 xl1
        replace BU := BU.put 2 (.string ⟨lh.toArray⟩)
        replace BR := BR.set ⟨w.heap.size + 1, 2, none⟩ (by first | (simp; done) | (simp; omega)) (.string ⟨lh.toArray⟩)
        replace Q := Reach.setCell (p := ⟨w.heap.size + 1, 2, none⟩) Q (by first | (simp; done) | (simp; omega)) (.string ⟨lh.toArray⟩)
        generalize W3.setCell ⟨w.heap.size + 1, 2, none⟩ (.string ⟨lh.toArray⟩) = W4 at BU BR Q ⊢
        obtain ⟨x0, x1, x2, x3, x4, x5⟩ := BU.six
        obtain ⟨⟨_, _, _, _, _, _⟩, y0, y1, y2, y3, y4, y5⟩ := BU.sixf
        have xl := BU.lt
        go_wp2_with (first | (go_at_call 58; (with_reducible refine Calls.mono (rdefault_calls _ _) ?_); rintro e w' ⟨rfl, rfl⟩) | ((with_reducible refine wp_region_quiet_below (by kernel_rfl) (by kernel_rfl) ?_); (repeat (any_goals (first | (go_big_quiet_step ((first | (go_at_call 58; with_reducible exact reg_pure (rdefault_calls _ _))))) | (quiet_step ((first | (go_at_call 58; with_reducible exact reg_pure (rdefault_calls _ _))))) | (refine wpQuiet_step (fun K hK => ?_); go_simp; split <;> (refine hK _ ?_; clear hK K))))); all_goals (refine wpQuiet_nil ?_; intro _ hw'; obtain ⟨⟨dq, osq⟩, hw''⟩ := hw'; subst hw'')))
        replace BU := BU.reach (Reach.grow (Reach.refl W4) dq osq)
        replace BR := BR.reach (Reach.grow (Reach.refl W4) dq osq)
        replace Q := Reach.grow Q dq osq
        clear x0 x1 x2 x3 x4 x5 xl y0 y1 y2 y3 y4 y5
        generalize grow (redrawn W4 dq) osq = W5 at BU BR Q ⊢
        replace BU := BU.put 3 (.int .i64 0)
        replace BR := BR.set ⟨w.heap.size + 1, 3, none⟩ (by first | (simp; done) | (simp; omega)) (.int .i64 0)
        replace Q := Reach.setCell (p := ⟨w.heap.size + 1, 3, none⟩) Q (by first | (simp; done) | (simp; omega)) (.int .i64 0)
        generalize W5.setCell ⟨w.heap.size + 1, 3, none⟩ (.int .i64 0) = W6 at BU BR Q ⊢
        (with_reducible refine Calls.mono (H3.out _) ?_)
        rintro e WC ⟨rfl, hr⟩
        replace BR := BR.reach hr
        replace BU := BU.reach hr
        replace Q := Reach.trans Q hr
        clear hr
        cases pa with
        | nil =>
          simp only [if_true] at c6 ⊢
          generalize hcl : cleanL [47] = cl at c6
          have HCL := Lib.hid hcl
          have H6 := Lib.hid c6
          clear c6 hcl
          obtain ⟨⟨x0_0, x0_1, x0_2, x0_3, x0_4, x0_5⟩, y0_0, y0_1, y0_2, y0_3, y0_4, y0_5⟩ := BR.sixf
          have xl0 := BR.lt
          obtain ⟨⟨x1_0, x1_1, x1_2, x1_3, x1_4, x1_5⟩, y1_0, y1_1, y1_2, y1_3, y1_4, y1_5⟩ := BU.sixf
          have xl1 := BU.lt
          go_wp2_with fail
          clear x0_0 x0_1 x0_2 x0_3 x0_4 x0_5 y0_0 y0_1 y0_2 y0_3 y0_4 y0_5 xl0 x1_0 x1_1 x1_2 x1_3 x1_4 x1_5 y1_0 y1_1 y1_2 y1_3 y1_4 y1_5 xl1
          (with_reducible refine Calls.mono (H6.out _) ?_)
          rintro e WL ⟨rfl, hr⟩
          replace BR := BR.reach hr
          replace BU := BU.reach hr
          replace Q := Reach.trans Q hr
          clear hr
          obtain ⟨⟨x0_0, x0_1, x0_2, x0_3, x0_4, x0_5⟩, y0_0, y0_1, y0_2, y0_3, y0_4, y0_5⟩ := BR.sixf
          have xl0 := BR.lt
          obtain ⟨⟨x1_0, x1_1, x1_2, x1_3, x1_4, x1_5⟩, y1_0, y1_1, y1_2, y1_3, y1_4, y1_5⟩ := BU.sixf
          have xl1 := BU.lt
          go_wp2_with fail
          clear x0_0 x0_1 x0_2 x0_3 x0_4 x0_5 y0_0 y0_1 y0_2 y0_3 y0_4 y0_5 xl0 x1_0 x1_1 x1_2 x1_3 x1_4 x1_5 y1_0 y1_1 y1_2 y1_3 y1_4 y1_5 xl1
          replace BR := (BR.set ⟨w.heap.size + 1, 4, none⟩ (by simp) (.string ⟨cl.toArray⟩)).set ⟨w.heap.size + 1, 5, none⟩ (by simp) (.string ⟨qu.toArray⟩)
          replace Q := Reach.setCell (p := ⟨w.heap.size + 1, 5, none⟩) (Reach.setCell (p := ⟨w.heap.size + 1, 4, none⟩) Q (by simp) (.string ⟨cl.toArray⟩)) (by simp) (.string ⟨qu.toArray⟩)
          have BR1 := ((((((BR.put 0 (.bool false)).put 1 (.string ⟨sch.toArray⟩)).put 2 (.string ⟨lh.toArray⟩)).put 3 (.int .i64 0)).put 4 (.string ⟨cl.toArray⟩)).put 5 (.string ⟨qu.toArray⟩))
          obtain ⟨r0, r1, r2, r3, r4, r5⟩ := BR1.six
          refine bodyPost_ret (v := .agg #[.bool false, .string ⟨sch.toArray⟩, .string ⟨lh.toArray⟩, .int .i64 0, .string ⟨cl.toArray⟩, .string ⟨qu.toArray⟩]) (by simp [results, Tryz.results85, go_sem, r0, r1, r2, r3, r4, r5]) rfl ⟨(by rw [HCL.out]), ?_⟩
          exact Reach.setCell (Reach.setCell (Reach.setCell (Reach.setCell (Reach.setCell (Reach.setCell Q (by simp) _) (by simp) _) (by simp) _) (by simp) _) (by simp) _) (by simp) _
        | cons x pa =>
          simp only [reduceCtorEq, if_false] at c6 ⊢
          generalize hcl : cleanL (x :: pa) = cl at c6
          have HCL := Lib.hid hcl
          have H6 := Lib.hid c6
          clear c6 hcl
          obtain ⟨⟨x0_0, x0_1, x0_2, x0_3, x0_4, x0_5⟩, y0_0, y0_1, y0_2, y0_3, y0_4, y0_5⟩ := BR.sixf
          have xl0 := BR.lt
          obtain ⟨⟨x1_0, x1_1, x1_2, x1_3, x1_4, x1_5⟩, y1_0, y1_1, y1_2, y1_3, y1_4, y1_5⟩ := BU.sixf
          have xl1 := BU.lt
          go_wp2_with fail
          clear x0_0 x0_1 x0_2 x0_3 x0_4 x0_5 y0_0 y0_1 y0_2 y0_3 y0_4 y0_5 xl0 x1_0 x1_1 x1_2 x1_3 x1_4 x1_5 y1_0 y1_1 y1_2 y1_3 y1_4 y1_5 xl1
          (with_reducible refine Calls.mono (H6.out _) ?_)
          rintro e WL ⟨rfl, hr⟩
          replace BR := BR.reach hr
          replace BU := BU.reach hr
          replace Q := Reach.trans Q hr
          clear hr
          obtain ⟨⟨x0_0, x0_1, x0_2, x0_3, x0_4, x0_5⟩, y0_0, y0_1, y0_2, y0_3, y0_4, y0_5⟩ := BR.sixf
          have xl0 := BR.lt
          obtain ⟨⟨x1_0, x1_1, x1_2, x1_3, x1_4, x1_5⟩, y1_0, y1_1, y1_2, y1_3, y1_4, y1_5⟩ := BU.sixf
          have xl1 := BU.lt
          go_wp2_with fail
          clear x0_0 x0_1 x0_2 x0_3 x0_4 x0_5 y0_0 y0_1 y0_2 y0_3 y0_4 y0_5 xl0 x1_0 x1_1 x1_2 x1_3 x1_4 x1_5 y1_0 y1_1 y1_2 y1_3 y1_4 y1_5 xl1
          replace BR := (BR.set ⟨w.heap.size + 1, 4, none⟩ (by simp) (.string ⟨cl.toArray⟩)).set ⟨w.heap.size + 1, 5, none⟩ (by simp) (.string ⟨qu.toArray⟩)
          replace Q := Reach.setCell (p := ⟨w.heap.size + 1, 5, none⟩) (Reach.setCell (p := ⟨w.heap.size + 1, 4, none⟩) Q (by simp) (.string ⟨cl.toArray⟩)) (by simp) (.string ⟨qu.toArray⟩)
          have BR1 := ((((((BR.put 0 (.bool false)).put 1 (.string ⟨sch.toArray⟩)).put 2 (.string ⟨lh.toArray⟩)).put 3 (.int .i64 0)).put 4 (.string ⟨cl.toArray⟩)).put 5 (.string ⟨qu.toArray⟩))
          obtain ⟨r0, r1, r2, r3, r4, r5⟩ := BR1.six
          refine bodyPost_ret (v := .agg #[.bool false, .string ⟨sch.toArray⟩, .string ⟨lh.toArray⟩, .int .i64 0, .string ⟨cl.toArray⟩, .string ⟨qu.toArray⟩]) (by simp [results, Tryz.results85, go_sem, r0, r1, r2, r3, r4, r5]) rfl ⟨(by rw [HCL.out]), ?_⟩
          exact Reach.setCell (Reach.setCell (Reach.setCell (Reach.setCell (Reach.setCell (Reach.setCell Q (by simp) _) (by simp) _) (by simp) _) (by simp) _) (by simp) _) (by simp) _
    | cons y nu =>
      have hpz : (let p : Int := if y :: nu = [] then 0 else rportL ((y :: nu).drop 1); if p = defPort sch then 0 else p) = if rportL nu = defPort sch then 0 else rportL nu := by simp
      rw [hpz]
      clear hpz
      unfold urlA
      have c5 := fun W => rport_calls nu W
      generalize rportL nu = pn at *
      have H5 := Lib.hid c5
      clear c5
      cases hd : (pn == defPort sch)
      · have hdi : (if pn = defPort sch then 0 else pn) = pn := by simp at hd; simp [hd]
        rw [hdi]
        clear hdi
        simp only
        go_enter Tryz.func85, Tryz.ntmps85
        have hd2 := HT2.out
        go_wp2_with fail
        clear hd2
        have BR : Blk (w.alloc (.cells #[.bool false, .string ⟨#[]⟩, .string ⟨#[]⟩, .int .i64 0, .string ⟨#[]⟩, .string ⟨#[]⟩] 23)) (w.heap.size) #[.bool false, .string ⟨#[]⟩, .string ⟨#[]⟩, .int .i64 0, .string ⟨#[]⟩, .string ⟨#[]⟩] 23 := by have h := Blk.new w #[.bool false, .string ⟨#[]⟩, .string ⟨#[]⟩, .int .i64 0, .string ⟨#[]⟩, .string ⟨#[]⟩] 23; exact h
        have BU : Blk ((w.alloc (.cells #[.bool false, .string ⟨#[]⟩, .string ⟨#[]⟩, .int .i64 0, .string ⟨#[]⟩, .string ⟨#[]⟩] 23)).alloc (.cells #[.bool false, .string ⟨sch.toArray⟩, .string ⟨#[]⟩, .int .i64 0, .string ⟨#[]⟩, .string ⟨#[]⟩] 23)) (w.heap.size + 1) #[.bool false, .string ⟨sch.toArray⟩, .string ⟨#[]⟩, .int .i64 0, .string ⟨#[]⟩, .string ⟨#[]⟩] 23 := by have h := Blk.new (w.alloc (.cells #[.bool false, .string ⟨#[]⟩, .string ⟨#[]⟩, .int .i64 0, .string ⟨#[]⟩, .string ⟨#[]⟩] 23)) #[.bool false, .string ⟨sch.toArray⟩, .string ⟨#[]⟩, .int .i64 0, .string ⟨#[]⟩, .string ⟨#[]⟩] 23; rw [World.size_alloc] at h; exact h
        replace BR := BR.reach (Reach.alloc (Reach.refl _) (.cells #[.bool false, .string ⟨sch.toArray⟩, .string ⟨#[]⟩, .int .i64 0, .string ⟨#[]⟩, .string ⟨#[]⟩] 23))
        have Q : Reach w _ := Reach.alloc (Reach.alloc (Reach.refl w) (.cells #[.bool false, .string ⟨#[]⟩, .string ⟨#[]⟩, .int .i64 0, .string ⟨#[]⟩, .string ⟨#[]⟩] 23)) (.cells #[.bool false, .string ⟨sch.toArray⟩, .string ⟨#[]⟩, .int .i64 0, .string ⟨#[]⟩, .string ⟨#[]⟩] 23)
        generalize (w.alloc (.cells #[.bool false, .string ⟨#[]⟩, .string ⟨#[]⟩, .int .i64 0, .string ⟨#[]⟩, .string ⟨#[]⟩] 23)).alloc (.cells #[.bool false, .string ⟨sch.toArray⟩, .string ⟨#[]⟩, .int .i64 0, .string ⟨#[]⟩, .string ⟨#[]⟩] 23) = W0 at BR BU Q ⊢
        (with_reducible refine Calls.mono (H1.out _) ?_)
        rintro e W1 ⟨rfl, hr⟩
        replace BR := BR.reach hr
        replace BU := BU.reach hr
        replace Q := Reach.trans Q hr
        clear hr
        obtain ⟨⟨x0_0, x0_1, x0_2, x0_3, x0_4, x0_5⟩, y0_0, y0_1, y0_2, y0_3, y0_4, y0_5⟩ := BR.sixf
        have xl0 := BR.lt
        obtain ⟨⟨x1_0, x1_1, x1_2, x1_3, x1_4, x1_5⟩, y1_0, y1_1, y1_2, y1_3, y1_4, y1_5⟩ := BU.sixf
        have xl1 := BU.lt
        go_wp2_with fail
        clear x0_0 x0_1 x0_2 x0_3 x0_4 x0_5 y0_0 y0_1 y0_2 y0_3 y0_4 y0_5 xl0 x1_0 x1_1 x1_2 x1_3 x1_4 x1_5 y1_0 y1_1 y1_2 y1_3 y1_4 y1_5 xl1
        (with_reducible refine Calls.mono (H2.out _) ?_)
        rintro e W2 ⟨rfl, hr⟩
        replace BR := BR.reach hr
        replace BU := BU.reach hr
        replace Q := Reach.trans Q hr
        clear hr
        obtain ⟨⟨x0_0, x0_1, x0_2, x0_3, x0_4, x0_5⟩, y0_0, y0_1, y0_2, y0_3, y0_4, y0_5⟩ := BR.sixf
        have xl0 := BR.lt
        obtain ⟨⟨x1_0, x1_1, x1_2, x1_3, x1_4, x1_5⟩, y1_0, y1_1, y1_2, y1_3, y1_4, y1_5⟩ := BU.sixf
        have xl1 := BU.lt
        go_wp2_with fail
        clear x0_0 x0_1 x0_2 x0_3 x0_4 x0_5 y0_0 y0_1 y0_2 y0_3 y0_4 y0_5 xl0 x1_0 x1_1 x1_2 x1_3 x1_4 x1_5 y1_0 y1_1 y1_2 y1_3 y1_4 y1_5 xl1
        (with_reducible refine Calls.mono (H4.out _) ?_)
        rintro e W3 ⟨rfl, hr⟩
        replace BR := BR.reach hr
        replace BU := BU.reach hr
        replace Q := Reach.trans Q hr
        clear hr
        obtain ⟨⟨x0_0, x0_1, x0_2, x0_3, x0_4, x0_5⟩, y0_0, y0_1, y0_2, y0_3, y0_4, y0_5⟩ := BR.sixf
        have xl0 := BR.lt
        obtain ⟨⟨x1_0, x1_1, x1_2, x1_3, x1_4, x1_5⟩, y1_0, y1_1, y1_2, y1_3, y1_4, y1_5⟩ := BU.sixf
        have xl1 := BU.lt
        go_wp2_with fail
        clear x0_0 x0_1 x0_2 x0_3 x0_4 x0_5 y0_0 y0_1 y0_2 y0_3 y0_4 y0_5 xl0 x1_0 x1_1 x1_2 x1_3 x1_4 x1_5 y1_0 y1_1 y1_2 y1_3 y1_4 y1_5 xl1
        replace BU := BU.put 2 (.string ⟨lh.toArray⟩)
        replace BR := BR.set ⟨w.heap.size + 1, 2, none⟩ (by first | (simp; done) | (simp; omega)) (.string ⟨lh.toArray⟩)
        replace Q := Reach.setCell (p := ⟨w.heap.size + 1, 2, none⟩) Q (by first | (simp; done) | (simp; omega)) (.string ⟨lh.toArray⟩)
        generalize W3.setCell ⟨w.heap.size + 1, 2, none⟩ (.string ⟨lh.toArray⟩) = W4 at BU BR Q ⊢
        obtain ⟨⟨x0_0, x0_1, x0_2, x0_3, x0_4, x0_5⟩, y0_0, y0_1, y0_2, y0_3, y0_4, y0_5⟩ := BR.sixf
        have xl0 := BR.lt
        obtain ⟨⟨x1_0, x1_1, x1_2, x1_3, x1_4, x1_5⟩, y1_0, y1_1, y1_2, y1_3, y1_4, y1_5⟩ := BU.sixf
        have xl1 := BU.lt
        go_wp2_with (first | (go_at_call 118; (with_reducible refine Calls.mono (H5.out _) ?_); rintro e w' ⟨rfl, rfl⟩))
        clear x0_0 x0_1 x0_2 x0_3 x0_4 x0_5 y0_0 y0_1 y0_2 y0_3 y0_4 y0_5 xl0 x1_0 x1_1 x1_2 x1_3 x1_4 x1_5 y1_0 y1_1 y1_2 y1_3 y1_4 y1_5 xl1
        replace BU := BU.put 3 (.int .i64 pn)
        replace BR := BR.set ⟨w.heap.size + 1, 3, none⟩ (by first | (simp; done) | (simp; omega)) (.int .i64 pn)
        replace Q := Reach.setCell (p := ⟨w.heap.size + 1, 3, none⟩) Q (by first | (simp; done) | (simp; omega)) (.int .i64 pn)
        generalize W4.setCell ⟨w.heap.size + 1, 3, none⟩ (.int .i64 pn) = W4 at BU BR Q ⊢
        obtain ⟨x0, x1, x2, x3, x4, x5⟩ := BU.six
        obtain ⟨⟨_, _, _, _, _, _⟩, y0, y1, y2, y3, y4, y5⟩ := BU.sixf
        have xl := BU.lt
        go_wp2_with (first | (go_at_call 58; (with_reducible refine Calls.mono (rdefault_calls _ _) ?_); rintro e w' ⟨rfl, rfl⟩) | ((with_reducible refine wp_region_quiet_below (by kernel_rfl) (by kernel_rfl) ?_); (repeat (any_goals (first | (go_big_quiet_step ((first | (go_at_call 58; with_reducible exact reg_pure (rdefault_calls _ _))))) | (quiet_step ((first | (go_at_call 58; with_reducible exact reg_pure (rdefault_calls _ _))))) | (refine wpQuiet_step (fun K hK => ?_); go_simp; split <;> (refine hK _ ?_; clear hK K))))); all_goals (refine wpQuiet_nil ?_; intro _ hw'; obtain ⟨⟨dq, osq⟩, hw''⟩ := hw'; subst hw'')))
        replace BU := BU.reach (Reach.grow (Reach.refl W4) dq osq)
        replace BR := BR.reach (Reach.grow (Reach.refl W4) dq osq)
        replace Q := Reach.grow Q dq osq
        clear x0 x1 x2 x3 x4 x5 xl y0 y1 y2 y3 y4 y5
        generalize grow (redrawn W4 dq) osq = W5 at BU BR Q ⊢
        (with_reducible refine Calls.mono (H3.out _) ?_)
        rintro e WC ⟨rfl, hr⟩
        replace BR := BR.reach hr
        replace BU := BU.reach hr
        replace Q := Reach.trans Q hr
        clear hr
        cases pa with
        | nil =>
          simp only [if_true] at c6 ⊢
          generalize hcl : cleanL [47] = cl at c6
          have HCL := Lib.hid hcl
          have H6 := Lib.hid c6
          clear c6 hcl
          obtain ⟨⟨x0_0, x0_1, x0_2, x0_3, x0_4, x0_5⟩, y0_0, y0_1, y0_2, y0_3, y0_4, y0_5⟩ := BR.sixf
          have xl0 := BR.lt
          obtain ⟨⟨x1_0, x1_1, x1_2, x1_3, x1_4, x1_5⟩, y1_0, y1_1, y1_2, y1_3, y1_4, y1_5⟩ := BU.sixf
          have xl1 := BU.lt
          go_wp2_with fail
          clear x0_0 x0_1 x0_2 x0_3 x0_4 x0_5 y0_0 y0_1 y0_2 y0_3 y0_4 y0_5 xl0 x1_0 x1_1 x1_2 x1_3 x1_4 x1_5 y1_0 y1_1 y1_2 y1_3 y1_4 y1_5 xl1
          (with_reducible refine Calls.mono (H6.out _) ?_)
          rintro e WL ⟨rfl, hr⟩
          replace BR := BR.reach hr
          replace BU := BU.reach hr
          replace Q := Reach.trans Q hr
          clear hr
          obtain ⟨⟨x0_0, x0_1, x0_2, x0_3, x0_4, x0_5⟩, y0_0, y0_1, y0_2, y0_3, y0_4, y0_5⟩ := BR.sixf
          have xl0 := BR.lt
          obtain ⟨⟨x1_0, x1_1, x1_2, x1_3, x1_4, x1_5⟩, y1_0, y1_1, y1_2, y1_3, y1_4, y1_5⟩ := BU.sixf
          have xl1 := BU.lt
          go_wp2_with fail
          clear x0_0 x0_1 x0_2 x0_3 x0_4 x0_5 y0_0 y0_1 y0_2 y0_3 y0_4 y0_5 xl0 x1_0 x1_1 x1_2 x1_3 x1_4 x1_5 y1_0 y1_1 y1_2 y1_3 y1_4 y1_5 xl1
          replace BR := (BR.set ⟨w.heap.size + 1, 4, none⟩ (by simp) (.string ⟨cl.toArray⟩)).set ⟨w.heap.size + 1, 5, none⟩ (by simp) (.string ⟨qu.toArray⟩)
          replace Q := Reach.setCell (p := ⟨w.heap.size + 1, 5, none⟩) (Reach.setCell (p := ⟨w.heap.size + 1, 4, none⟩) Q (by simp) (.string ⟨cl.toArray⟩)) (by simp) (.string ⟨qu.toArray⟩)
          have BR1 := ((((((BR.put 0 (.bool false)).put 1 (.string ⟨sch.toArray⟩)).put 2 (.string ⟨lh.toArray⟩)).put 3 (.int .i64 pn)).put 4 (.string ⟨cl.toArray⟩)).put 5 (.string ⟨qu.toArray⟩))
          obtain ⟨r0, r1, r2, r3, r4, r5⟩ := BR1.six
          refine bodyPost_ret (v := .agg #[.bool false, .string ⟨sch.toArray⟩, .string ⟨lh.toArray⟩, .int .i64 pn, .string ⟨cl.toArray⟩, .string ⟨qu.toArray⟩]) (by simp [results, Tryz.results85, go_sem, r0, r1, r2, r3, r4, r5]) rfl ⟨(by rw [HCL.out]), ?_⟩
          exact Reach.setCell (Reach.setCell (Reach.setCell (Reach.setCell (Reach.setCell (Reach.setCell Q (by simp) _) (by simp) _) (by simp) _) (by simp) _) (by simp) _) (by simp) _
        | cons x pa =>
          simp only [reduceCtorEq, if_false] at c6 ⊢
          generalize hcl : cleanL (x :: pa) = cl at c6
          have HCL := Lib.hid hcl
          have H6 := Lib.hid c6
          clear c6 hcl
          obtain ⟨⟨x0_0, x0_1, x0_2, x0_3, x0_4, x0_5⟩, y0_0, y0_1, y0_2, y0_3, y0_4, y0_5⟩ := BR.sixf
          have xl0 := BR.lt
          obtain ⟨⟨x1_0, x1_1, x1_2, x1_3, x1_4, x1_5⟩, y1_0, y1_1, y1_2, y1_3, y1_4, y1_5⟩ := BU.sixf
          have xl1 := BU.lt
          go_wp2_with fail
          clear x0_0 x0_1 x0_2 x0_3 x0_4 x0_5 y0_0 y0_1 y0_2 y0_3 y0_4 y0_5 xl0 x1_0 x1_1 x1_2 x1_3 x1_4 x1_5 y1_0 y1_1 y1_2 y1_3 y1_4 y1_5 xl1
          (with_reducible refine Calls.mono (H6.out _) ?_)
          rintro e WL ⟨rfl, hr⟩
          replace BR := BR.reach hr
          replace BU := BU.reach hr
          replace Q := Reach.trans Q hr
          clear hr
          obtain ⟨⟨x0_0, x0_1, x0_2, x0_3, x0_4, x0_5⟩, y0_0, y0_1, y0_2, y0_3, y0_4, y0_5⟩ := BR.sixf
          have xl0 := BR.lt
          obtain ⟨⟨x1_0, x1_1, x1_2, x1_3, x1_4, x1_5⟩, y1_0, y1_1, y1_2, y1_3, y1_4, y1_5⟩ := BU.sixf
          have xl1 := BU.lt
          go_wp2_with fail
          clear x0_0 x0_1 x0_2 x0_3 x0_4 x0_5 y0_0 y0_1 y0_2 y0_3 y0_4 y0_5 xl0 x1_0 x1_1 x1_2 x1_3 x1_4 x1_5 y1_0 y1_1 y1_2 y1_3 y1_4 y1_5 xl1
          replace BR := (BR.set ⟨w.heap.size + 1, 4, none⟩ (by simp) (.string ⟨cl.toArray⟩)).set ⟨w.heap.size + 1, 5, none⟩ (by simp) (.string ⟨qu.toArray⟩)
          replace Q := Reach.setCell (p := ⟨w.heap.size + 1, 5, none⟩) (Reach.setCell (p := ⟨w.heap.size + 1, 4, none⟩) Q (by simp) (.string ⟨cl.toArray⟩)) (by simp) (.string ⟨qu.toArray⟩)
          have BR1 := ((((((BR.put 0 (.bool false)).put 1 (.string ⟨sch.toArray⟩)).put 2 (.string ⟨lh.toArray⟩)).put 3 (.int .i64 pn)).put 4 (.string ⟨cl.toArray⟩)).put 5 (.string ⟨qu.toArray⟩))
          obtain ⟨r0, r1, r2, r3, r4, r5⟩ := BR1.six
          refine bodyPost_ret (v := .agg #[.bool false, .string ⟨sch.toArray⟩, .string ⟨lh.toArray⟩, .int .i64 pn, .string ⟨cl.toArray⟩, .string ⟨qu.toArray⟩]) (by simp [results, Tryz.results85, go_sem, r0, r1, r2, r3, r4, r5]) rfl ⟨(by rw [HCL.out]), ?_⟩
          exact Reach.setCell (Reach.setCell (Reach.setCell (Reach.setCell (Reach.setCell (Reach.setCell Q (by simp) _) (by simp) _) (by simp) _) (by simp) _) (by simp) _) (by simp) _
      · have hdi : (if pn = defPort sch then 0 else pn) = 0 := by simp at hd; simp [hd]
        rw [hdi]
        clear hdi
        simp only
        go_enter Tryz.func85, Tryz.ntmps85
        have hd2 := HT2.out
        go_wp2_with fail
        clear hd2
        have BR : Blk (w.alloc (.cells #[.bool false, .string ⟨#[]⟩, .string ⟨#[]⟩, .int .i64 0, .string ⟨#[]⟩, .string ⟨#[]⟩] 23)) (w.heap.size) #[.bool false, .string ⟨#[]⟩, .string ⟨#[]⟩, .int .i64 0, .string ⟨#[]⟩, .string ⟨#[]⟩] 23 := by have h := Blk.new w #[.bool false, .string ⟨#[]⟩, .string ⟨#[]⟩, .int .i64 0, .string ⟨#[]⟩, .string ⟨#[]⟩] 23; exact h
        have BU : Blk ((w.alloc (.cells #[.bool false, .string ⟨#[]⟩, .string ⟨#[]⟩, .int .i64 0, .string ⟨#[]⟩, .string ⟨#[]⟩] 23)).alloc (.cells #[.bool false, .string ⟨sch.toArray⟩, .string ⟨#[]⟩, .int .i64 0, .string ⟨#[]⟩, .string ⟨#[]⟩] 23)) (w.heap.size + 1) #[.bool false, .string ⟨sch.toArray⟩, .string ⟨#[]⟩, .int .i64 0, .string ⟨#[]⟩, .string ⟨#[]⟩] 23 := by have h := Blk.new (w.alloc (.cells #[.bool false, .string ⟨#[]⟩, .string ⟨#[]⟩, .int .i64 0, .string ⟨#[]⟩, .string ⟨#[]⟩] 23)) #[.bool false, .string ⟨sch.toArray⟩, .string ⟨#[]⟩, .int .i64 0, .string ⟨#[]⟩, .string ⟨#[]⟩] 23; rw [World.size_alloc] at h; exact h
        replace BR := BR.reach (Reach.alloc (Reach.refl _) (.cells #[.bool false, .string ⟨sch.toArray⟩, .string ⟨#[]⟩, .int .i64 0, .string ⟨#[]⟩, .string ⟨#[]⟩] 23))
        have Q : Reach w _ := Reach.alloc (Reach.alloc (Reach.refl w) (.cells #[.bool false, .string ⟨#[]⟩, .string ⟨#[]⟩, .int .i64 0, .string ⟨#[]⟩, .string ⟨#[]⟩] 23)) (.cells #[.bool false, .string ⟨sch.toArray⟩, .string ⟨#[]⟩, .int .i64 0, .string ⟨#[]⟩, .string ⟨#[]⟩] 23)
        generalize (w.alloc (.cells #[.bool false, .string ⟨#[]⟩, .string ⟨#[]⟩, .int .i64 0, .string ⟨#[]⟩, .string ⟨#[]⟩] 23)).alloc (.cells #[.bool false, .string ⟨sch.toArray⟩, .string ⟨#[]⟩, .int .i64 0, .string ⟨#[]⟩, .string ⟨#[]⟩] 23) = W0 at BR BU Q ⊢
        (with_reducible refine Calls.mono (H1.out _) ?_)
        rintro e W1 ⟨rfl, hr⟩
        replace BR := BR.reach hr
        replace BU := BU.reach hr
        replace Q := Reach.trans Q hr
        clear hr
        obtain ⟨⟨x0_0, x0_1, x0_2, x0_3, x0_4, x0_5⟩, y0_0, y0_1, y0_2, y0_3, y0_4, y0_5⟩ := BR.sixf
        have xl0 := BR.lt
        obtain ⟨⟨x1_0, x1_1, x1_2, x1_3, x1_4, x1_5⟩, y1_0, y1_1, y1_2, y1_3, y1_4, y1_5⟩ := BU.sixf
        have xl1 := BU.lt
        go_wp2_with fail
        clear x0_0 x0_1 x0_2 x0_3 x0_4 x0_5 y0_0 y0_1 y0_2 y0_3 y0_4 y0_5 xl0 x1_0 x1_1 x1_2 x1_3 x1_4 x1_5 y1_0 y1_1 y1_2 y1_3 y1_4 y1_5 xl1
        (with_reducible refine Calls.mono (H2.out _) ?_)
        rintro e W2 ⟨rfl, hr⟩
        replace BR := BR.reach hr
        replace BU := BU.reach hr
        replace Q := Reach.trans Q hr
        clear hr
        obtain ⟨⟨x0_0, x0_1, x0_2, x0_3, x0_4, x0_5⟩, y0_0, y0_1, y0_2, y0_3, y0_4, y0_5⟩ := BR.sixf
        have xl0 := BR.lt
        obtain ⟨⟨x1_0, x1_1, x1_2, x1_3, x1_4, x1_5⟩, y1_0, y1_1, y1_2, y1_3, y1_4, y1_5⟩ := BU.sixf
        have xl1 := BU.lt
        go_wp2_with fail
        clear x0_0 x0_1 x0_2 x0_3 x0_4 x0_5 y0_0 y0_1 y0_2 y0_3 y0_4 y0_5 xl0 x1_0 x1_1 x1_2 x1_3 x1_4 x1_5 y1_0 y1_1 y1_2 y1_3 y1_4 y1_5 xl1
        (with_reducible refine Calls.mono (H4.out _) ?_)
        rintro e W3 ⟨rfl, hr⟩
        replace BR := BR.reach hr
        replace BU := BU.reach hr
        replace Q := Reach.trans Q hr
        clear hr
        obtain ⟨⟨x0_0, x0_1, x0_2, x0_3, x0_4, x0_5⟩, y0_0, y0_1, y0_2, y0_3, y0_4, y0_5⟩ := BR.sixf
        have xl0 := BR.lt
        obtain ⟨⟨x1_0, x1_1, x1_2, x1_3, x1_4, x1_5⟩, y1_0, y1_1, y1_2, y1_3, y1_4, y1_5⟩ := BU.sixf
        have xl1 := BU.lt
        go_wp2_with fail
        clear x0_0 x0_1 x0_2 x0_3 x0_4 x0_5 y0_0 y0_1 y0_2 y0_3 y0_4 y0_5 xl0 x1_0 x1_1 x1_2 x1_3 x1_4 x1_5 y1_0 y1_1 y1_2 y1_3 y1_4 y1_5 xl1
        replace BU := BU.put 2 (.string ⟨lh.toArray⟩)
        replace BR := BR.set ⟨w.heap.size + 1, 2, none⟩ (by first | (simp; done) | (simp; omega)) (.string ⟨lh.toArray⟩)
        replace Q := Reach.setCell (p := ⟨w.heap.size + 1, 2, none⟩) Q (by first | (simp; done) | (simp; omega)) (.string ⟨lh.toArray⟩)
        generalize W3.setCell ⟨w.heap.size + 1, 2, none⟩ (.string ⟨lh.toArray⟩) = W4 at BU BR Q ⊢
        obtain ⟨⟨x0_0, x0_1, x0_2, x0_3, x0_4, x0_5⟩, y0_0, y0_1, y0_2, y0_3, y0_4, y0_5⟩ := BR.sixf
        have xl0 := BR.lt
        obtain ⟨⟨x1_0, x1_1, x1_2, x1_3, x1_4, x1_5⟩, y1_0, y1_1, y1_2, y1_3, y1_4, y1_5⟩ := BU.sixf
        have xl1 := BU.lt
        go_wp2_with (first | (go_at_call 118; (with_reducible refine Calls.mono (H5.out _) ?_); rintro e w' ⟨rfl, rfl⟩))
        clear x0_0 x0_1 x0_2 x0_3 x0_4 x0_5 y0_0 y0_1 y0_2 y0_3 y0_4 y0_5 xl0 x1_0 x1_1 x1_2 x1_3 x1_4 x1_5 y1_0 y1_1 y1_2 y1_3 y1_4 y1_5 xl1
        replace BU := BU.put 3 (.int .i64 pn)
        replace BR := BR.set ⟨w.heap.size + 1, 3, none⟩ (by first | (simp; done) | (simp; omega)) (.int .i64 pn)
        replace Q := Reach.setCell (p := ⟨w.heap.size + 1, 3, none⟩) Q (by first | (simp; done) | (simp; omega)) (.int .i64 pn)
        generalize W4.setCell ⟨w.heap.size + 1, 3, none⟩ (.int .i64 pn) = W4 at BU BR Q ⊢
        obtain ⟨x0, x1, x2, x3, x4, x5⟩ := BU.six
        obtain ⟨⟨_, _, _, _, _, _⟩, y0, y1, y2, y3, y4, y5⟩ := BU.sixf
        have xl := BU.lt
        go_wp2_with (first | (go_at_call 58; (with_reducible refine Calls.mono (rdefault_calls _ _) ?_); rintro e w' ⟨rfl, rfl⟩) | ((with_reducible refine wp_region_quiet_below (by kernel_rfl) (by kernel_rfl) ?_); (repeat (any_goals (first | (go_big_quiet_step ((first | (go_at_call 58; with_reducible exact reg_pure (rdefault_calls _ _))))) | (quiet_step ((first | (go_at_call 58; with_reducible exact reg_pure (rdefault_calls _ _))))) | (refine wpQuiet_step (fun K hK => ?_); go_simp; split <;> (refine hK _ ?_; clear hK K))))); all_goals (refine wpQuiet_nil ?_; intro _ hw'; obtain ⟨⟨dq, osq⟩, hw''⟩ := hw'; subst hw'')))
        replace BU := BU.reach (Reach.grow (Reach.refl W4) dq osq)
        replace BR := BR.reach (Reach.grow (Reach.refl W4) dq osq)
        replace Q := Reach.grow Q dq osq
        clear x0 x1 x2 x3 x4 x5 xl y0 y1 y2 y3 y4 y5
        generalize grow (redrawn W4 dq) osq = W5 at BU BR Q ⊢
        replace BU := BU.put 3 (.int .i64 0)
        replace BR := BR.set ⟨w.heap.size + 1, 3, none⟩ (by first | (simp; done) | (simp; omega)) (.int .i64 0)
        replace Q := Reach.setCell (p := ⟨w.heap.size + 1, 3, none⟩) Q (by first | (simp; done) | (simp; omega)) (.int .i64 0)
        generalize W5.setCell ⟨w.heap.size + 1, 3, none⟩ (.int .i64 0) = W6 at BU BR Q ⊢
        (with_reducible refine Calls.mono (H3.out _) ?_)
        rintro e WC ⟨rfl, hr⟩
        replace BR := BR.reach hr
        replace BU := BU.reach hr
        replace Q := Reach.trans Q hr
        clear hr
        cases pa with
        | nil =>
          simp only [if_true] at c6 ⊢
          generalize hcl : cleanL [47] = cl at c6
          have HCL := Lib.hid hcl
          have H6 := Lib.hid c6
          clear c6 hcl
          obtain ⟨⟨x0_0, x0_1, x0_2, x0_3, x0_4, x0_5⟩, y0_0, y0_1, y0_2, y0_3, y0_4, y0_5⟩ := BR.sixf
          have xl0 := BR.lt
          obtain ⟨⟨x1_0, x1_1, x1_2, x1_3, x1_4, x1_5⟩, y1_0, y1_1, y1_2, y1_3, y1_4, y1_5⟩ := BU.sixf
          have xl1 := BU.lt
          go_wp2_with fail
          clear x0_0 x0_1 x0_2 x0_3 x0_4 x0_5 y0_0 y0_1 y0_2 y0_3 y0_4 y0_5 xl0 x1_0 x1_1 x1_2 x1_3 x1_4 x1_5 y1_0 y1_1 y1_2 y1_3 y1_4 y1_5 xl1
          (with_reducible refine Calls.mono (H6.out _) ?_)
          rintro e WL ⟨rfl, hr⟩
          replace BR := BR.reach hr
          replace BU := BU.reach hr
          replace Q := Reach.trans Q hr
          clear hr
          obtain ⟨⟨x0_0, x0_1, x0_2, x0_3, x0_4, x0_5⟩, y0_0, y0_1, y0_2, y0_3, y0_4, y0_5⟩ := BR.sixf
          have xl0 := BR.lt
          obtain ⟨⟨x1_0, x1_1, x1_2, x1_3, x1_4, x1_5⟩, y1_0, y1_1, y1_2, y1_3, y1_4, y1_5⟩ := BU.sixf
          have xl1 := BU.lt
          go_wp2_with fail
          clear x0_0 x0_1 x0_2 x0_3 x0_4 x0_5 y0_0 y0_1 y0_2 y0_3 y0_4 y0_5 xl0 x1_0 x1_1 x1_2 x1_3 x1_4 x1_5 y1_0 y1_1 y1_2 y1_3 y1_4 y1_5 xl1
          replace BR := (BR.set ⟨w.heap.size + 1, 4, none⟩ (by simp) (.string ⟨cl.toArray⟩)).set ⟨w.heap.size + 1, 5, none⟩ (by simp) (.string ⟨qu.toArray⟩)
          replace Q := Reach.setCell (p := ⟨w.heap.size + 1, 5, none⟩) (Reach.setCell (p := ⟨w.heap.size + 1, 4, none⟩) Q (by simp) (.string ⟨cl.toArray⟩)) (by simp) (.string ⟨qu.toArray⟩)
          have BR1 := ((((((BR.put 0 (.bool false)).put 1 (.string ⟨sch.toArray⟩)).put 2 (.string ⟨lh.toArray⟩)).put 3 (.int .i64 0)).put 4 (.string ⟨cl.toArray⟩)).put 5 (.string ⟨qu.toArray⟩))
          obtain ⟨r0, r1, r2, r3, r4, r5⟩ := BR1.six
          refine bodyPost_ret (v := .agg #[.bool false, .string ⟨sch.toArray⟩, .string ⟨lh.toArray⟩, .int .i64 0, .string ⟨cl.toArray⟩, .string ⟨qu.toArray⟩]) (by simp [results, Tryz.results85, go_sem, r0, r1, r2, r3, r4, r5]) rfl ⟨(by rw [HCL.out]), ?_⟩
          exact Reach.setCell (Reach.setCell (Reach.setCell (Reach.setCell (Reach.setCell (Reach.setCell Q (by simp) _) (by simp) _) (by simp) _) (by simp) _) (by simp) _) (by simp) _
        | cons x pa =>
          simp only [reduceCtorEq, if_false] at c6 ⊢
          generalize hcl : cleanL (x :: pa) = cl at c6
          have HCL := Lib.hid hcl
          have H6 := Lib.hid c6
          clear c6 hcl
          obtain ⟨⟨x0_0, x0_1, x0_2, x0_3, x0_4, x0_5⟩, y0_0, y0_1, y0_2, y0_3, y0_4, y0_5⟩ := BR.sixf
          have xl0 := BR.lt
          obtain ⟨⟨x1_0, x1_1, x1_2, x1_3, x1_4, x1_5⟩, y1_0, y1_1, y1_2, y1_3, y1_4, y1_5⟩ := BU.sixf
          have xl1 := BU.lt
          go_wp2_with fail
          clear x0_0 x0_1 x0_2 x0_3 x0_4 x0_5 y0_0 y0_1 y0_2 y0_3 y0_4 y0_5 xl0 x1_0 x1_1 x1_2 x1_3 x1_4 x1_5 y1_0 y1_1 y1_2 y1_3 y1_4 y1_5 xl1
          (with_reducible refine Calls.mono (H6.out _) ?_)
          rintro e WL ⟨rfl, hr⟩
          replace BR := BR.reach hr
          replace BU := BU.reach hr
          replace Q := Reach.trans Q hr
          clear hr
          obtain ⟨⟨x0_0, x0_1, x0_2, x0_3, x0_4, x0_5⟩, y0_0, y0_1, y0_2, y0_3, y0_4, y0_5⟩ := BR.sixf
          have xl0 := BR.lt
          obtain ⟨⟨x1_0, x1_1, x1_2, x1_3, x1_4, x1_5⟩, y1_0, y1_1, y1_2, y1_3, y1_4, y1_5⟩ := BU.sixf
          have xl1 := BU.lt
          go_wp2_with fail
          clear x0_0 x0_1 x0_2 x0_3 x0_4 x0_5 y0_0 y0_1 y0_2 y0_3 y0_4 y0_5 xl0 x1_0 x1_1 x1_2 x1_3 x1_4 x1_5 y1_0 y1_1 y1_2 y1_3 y1_4 y1_5 xl1
          replace BR := (BR.set ⟨w.heap.size + 1, 4, none⟩ (by simp) (.string ⟨cl.toArray⟩)).set ⟨w.heap.size + 1, 5, none⟩ (by simp) (.string ⟨qu.toArray⟩)
          replace Q := Reach.setCell (p := ⟨w.heap.size + 1, 5, none⟩) (Reach.setCell (p := ⟨w.heap.size + 1, 4, none⟩) Q (by simp) (.string ⟨cl.toArray⟩)) (by simp) (.string ⟨qu.toArray⟩)
          have BR1 := ((((((BR.put 0 (.bool false)).put 1 (.string ⟨sch.toArray⟩)).put 2 (.string ⟨lh.toArray⟩)).put 3 (.int .i64 0)).put 4 (.string ⟨cl.toArray⟩)).put 5 (.string ⟨qu.toArray⟩))
          obtain ⟨r0, r1, r2, r3, r4, r5⟩ := BR1.six
          refine bodyPost_ret (v := .agg #[.bool false, .string ⟨sch.toArray⟩, .string ⟨lh.toArray⟩, .int .i64 0, .string ⟨cl.toArray⟩, .string ⟨qu.toArray⟩]) (by simp [results, Tryz.results85, go_sem, r0, r1, r2, r3, r4, r5]) rfl ⟨(by rw [HCL.out]), ?_⟩
          exact Reach.setCell (Reach.setCell (Reach.setCell (Reach.setCell (Reach.setCell (Reach.setCell Q (by simp) _) (by simp) _) (by simp) _) (by simp) _) (by simp) _) (by simp) _
end Go.Proofs.YtbeaheicjopooaaGreatDoor
